/-
  Append, copy, make.
-/
import Derived.Test.YtjnppjipoibbeaaAm10
namespace Go.Am
set_option linter.all false

variable {P : Program} {ι : Map} {h : Heap} {w w' : World} {t : Fr} {a : Act}

theorem zeroT_info {E : TypeId} {z : Array Value} {i : TypeInfo} (hz : zeroT P E = some z) (hi : P.info? E = some i) : ∃ zv, i.zero = some zv ∧ zv.cells = z ∧ z.toList.all okCell = true := by
  unfold zeroT at hz
  rw [hi] at hz
  dsimp only at hz
  split at hz
  · rename_i v hv
    split at hz
    · rename_i hc; cases hz; exact ⟨v, hv, rfl, hc⟩
    · cases hz
  · cases hz

/-- What is appended, or copied. -/
theorem src_sim {esz n : Nat} {x x' : Value} {new : List Value} (H : HR ι h w) (hx : VR ι x x') (e : srcA h esz x = some (n, new)) :
    ∃ xa c' new', x' = .slice xa n c' ∧ F2 (VC ι) new new' ∧ new'.length = n * esz ∧ (n = 0 → new' = []) ∧ (n ≠ 0 → ∃ b o, xa = some ⟨b, o, none⟩ ∧ ∀ j v, new'[j]? = some v → w.cell? ⟨b, o + j, none⟩ = some v) := by
  unfold srcA at e
  split at e
  · rename_i m c
    split at e
    · rename_i hm
      cases e
      subst hm
      cases hx.nilSl_inv
      exact ⟨none, _, [], rfl, .nil, by simp, fun _ => rfl, fun q => absurd rfl q⟩
    · cases e
  · rename_i p m c
    obtain ⟨B, o, s⟩ := p
    split at e
    · rename_i l hl
      cases e
      obtain ⟨rfl, lo, hlo, hv⟩ := hx.sl_inv
      rcases hv with ⟨c', rfl, -⟩ | ⟨rfl, -, b', o', rfl⟩
      · obtain ⟨l', f1, f2, f3⟩ := H.cells hl hlo
        exact ⟨_, c', l', rfl, f1, f2, fun q => List.length_eq_zero_iff.1 (by rw [f2, q]; simp), fun _ => ⟨_, _, rfl, f3⟩⟩
      · obtain ⟨_, b0, _, hle, rfl⟩ := readN_some hl
        exact ⟨_, 0, [], rfl, by simp; exact .nil, by simp, fun _ => rfl, fun q => absurd rfl q⟩
    · cases e
  · cases e

section runs
variable {T E ty : TypeId} {i : TypeInfo}

theorem run_append_zero (hu : P.underlying T = some (.slice E)) (hi : P.info? E = some i) (base xa : Option Addr) (len cap c : Nat) (hle : len ≤ cap) (hb : base = none ∨ ∃ p, base = some p) :
    (Builtin.append_ #[T, T] ty #[.slice base len cap, .slice xa 0 c]).run P w = .ok (.slice base len cap) w := by
  have hf : (Builtin.firstCells i.size 0 (.slice xa 0 c)).run P w = .ok #[] w := by
    cases xa <;> simp [Builtin.firstCells, loadCells, loadCellsFrom]
  cases base <;> simp [Builtin.append_, run_underlying hu, sizeOf, typeInfo, hi, Builtin.lenOf, hle, hf, storeCells]

theorem run_append_place (hu : P.underlying T = some (.slice E)) (hi : P.info? E = some i) (b o sLen sCap : Nat) (ab ao m c : Nat) (news : List Value) (hl : news.length = m * i.size)
    (hnews : ∀ j u, news[j]? = some u → w.cell? ⟨ab, ao + j, none⟩ = some u) (hroom : sLen + m ≤ sCap) (hst : (storeCells ⟨b, o + sLen * i.size, none⟩ news).run P w = .ok () w') :
    (Builtin.append_ #[T, T] ty #[.slice (some ⟨b, o, none⟩) sLen sCap, .slice (some ⟨ab, ao, none⟩) m c]).run P w = .ok (.slice (some ⟨b, o, none⟩) (sLen + m) sCap) w' := by
  have hf := run_firstCells_some (P := P) w i.size m ⟨ab, ao, none⟩ m c news hl (fun j v hv => by rw [add_plain]; exact hnews j v hv)
  simp [Builtin.append_, run_underlying hu, sizeOf, typeInfo, hi, Builtin.lenOf, hroom, hf, add_plain, hst]
end runs

/-- The room of a row that grew. -/
theorem grown_size (w : World) (need old : Nat) (e : TypeId) (h : need ≤ maxLen) : need ≤ grownCap w need old e := by
  simp only [grownCap, Question.cut]
  omega

theorem append_sim {T E ty : TypeId} {i : TypeInfo} {z : Array Value} {s x s' x' v : Value} {h' : Heap} (H : HR ι h w) (hu : P.underlying T = some (.slice E)) (hi : P.info? E = some i) (hz : zeroT P E = some z) (hzs : z.size = i.size)
    (hs : VR ι s s') (hx : VR ι x x') (e : appA i.size i.bytes h s x = some (v, h')) :
    ∃ w' ι' v', (Builtin.append_ #[T, T] ty #[s', x']).run P w = .ok v' w' ∧ VR ι' v v' ∧ HR ι' h' w' ∧ Ext ι h w ι' h' w' := by
  obtain ⟨zv, z1, z2, z3⟩ := zeroT_info hz hi
  have hzl : zv.cells.size = i.size := by rw [z2, hzs]
  cases s <;> simp only [appA] at e
  case slice base len cap =>
    split at e
    · rename_i n new hsrc
      obtain ⟨xa, c', new', rfl, hFn, hnl, hn0, hn1⟩ := src_sim H hx hsrc
      split at e
      · -- nothing is appended
        rename_i hn
        subst hn
        split at e
        · rename_i hle
          cases e
          cases base with
          | none =>
            cases hs.nilSl_inv
            exact ⟨w, ι, _, run_append_zero hu hi none xa len cap c' hle (.inl rfl), .v0 (.nilSl _ _), H, Ext.refl ι h w⟩
          | some p =>
            obtain ⟨B, o, s0⟩ := p
            obtain ⟨rfl, lo, hlo, hv⟩ := hs.sl_inv
            rcases hv with ⟨cap', rfl, hc⟩ | ⟨rfl, rfl, b', o', rfl⟩
            · have hcc : cap ≤ cap' := by rcases hc with rfl | ⟨_, _, _, h⟩ <;> omega
              exact ⟨w, ι, _, run_append_zero hu hi _ xa len cap' c' (by omega) (.inr ⟨_, rfl⟩), hs, H, Ext.refl ι h w⟩
            · exact ⟨w, ι, _, run_append_zero hu hi _ xa 0 0 c' (Nat.le_refl _) (.inr ⟨_, rfl⟩), hs, H, Ext.refl ι h w⟩
        · cases e
      · rename_i hn
        obtain ⟨xb, xo, rfl, hnew⟩ := hn1 hn
        have hFl := hFn.length
        split at e
        · -- onto nil
          split at e
          · rename_i hc
            obtain ⟨rfl, rfl, he, hby, hnb⟩ := hc
            cases e
            cases hs.nilSl_inv
            have hrun := run_append_nil (P := P) w T ty E i zv hu hi z1 ⟨xb, xo, none⟩ n c' new' hnl (fun j v hv => by rw [add_plain]; exact hnew j v hv) (by omega) (by omega) (by omega)
            have hg : n ≤ grownCap w n 0 E := grown_size w n 0 E (by unfold maxLen; omega)
            generalize hgc : grownCap w n 0 E = gc at hrun hg
            have hsz : (new'.toArray ++ Builtin.zeroCells zv.cells (gc - n)).size = gc * i.size := by
              rw [Array.size_append, size_zeroCells, hzl]
              simp only [List.size_toArray, hnl, ← Nat.add_mul]
              congr 1; omega
            have hl : n * i.size ≤ gc * i.size := Nat.mul_le_mul_right _ hg
            have hfit : Fits (upd ι h.length ⟨w.heap.size, 0, new.length, gc * i.size, i.size⟩) (w.drew.alloc (.cells (new'.toArray ++ Builtin.zeroCells zv.cells (gc - n)) E)) (.grown i.size) new ⟨w.heap.size, 0, new.length, gc * i.size, i.size⟩ := by
              refine ⟨rfl, by simp only; omega, fun q => by simp only at q; omega, rfl, _, E, (0, 0), by show (w.heap.push _)[w.heap.size]? = _; exact Array.getElem?_push_size, by rw [hsz]; exact Nat.le_refl _, fun _ => rfl, ?_⟩
              simp only [Array.toList_append, List.drop_zero]
              rw [hFl, List.take_left]
              exact hFn.mono fun _ _ q => q.mono (H.subU _)
            refine ⟨_, _, _, hrun, vr_newSl n n gc rfl (.inr ⟨he, by simp only; omega, by simp only; omega, hg⟩), H.push (alloc_old w _) (Nat.le_refl _) hfit, Ext.push H (alloc_old w _) (by show _ ≤ (w.heap.push _).size; simp) (Nat.le_refl _) rfl rfl rfl⟩
          · cases e
        · rename_i p
          obtain ⟨B, o, s0⟩ := p
          obtain ⟨rfl, lo, hlo, hv⟩ := hs.sl_inv
          dsimp only at e
          split at e
          · -- there is room
            rename_i hroom
            split at e
            · rename_i hw hwr
              cases e
              rcases hv with ⟨cap', rfl, hc⟩ | ⟨rfl, rfl, _⟩
              · have hcc : cap ≤ cap' := by rcases hc with rfl | ⟨_, _, _, h⟩ <;> omega
                obtain ⟨w1, hst, g1, g2⟩ := store_sim (P := P) H hwr hlo hFn
                refine ⟨w1, ι, _, run_append_place hu hi lo.b (lo.base + o) len cap' xb xo n c' new' hnl hnew (by omega) (by rw [Nat.add_assoc]; exact hst), .v0 (.sl hlo hc), g1, g2⟩
              · omega
            · cases e
          · rename_i hroom
            split at e
            · rename_i hc0
              obtain ⟨he, hby, hnb⟩ := hc0
              split at e
              · rename_i old q hold hend
                cases e
                obtain ⟨blk, hblk, hkind⟩ := isEnd_some hend
                obtain ⟨hbn, hbN, hbe, hbk, cc, Tc, fc, hcc0, hcsz, hf0, hFc⟩ := H.at hblk hlo
                -- the old cells, read as they lie
                have growth : ∀ (b' o' cap' : Nat) (old' : List Value), F2 (VC ι) old old' → old'.length = len * i.size → (∀ j v, old'[j]? = some v → w.cell? ⟨b', o' + j, none⟩ = some v) → cap' < len + n →
                    ∃ w' ι' v', (Builtin.append_ #[T, T] ty #[.slice (some ⟨b', o', none⟩) len cap', .slice (some ⟨xb, xo, none⟩) n c']).run P w = .ok v' w' ∧
                      VR ι' (.slice (some ⟨h.length, 0, none⟩) (len + n) (len + n)) v' ∧ HR ι' ((if q = true then h.set B none else h) ++ [some ⟨.grown i.size, old ++ new⟩]) w' ∧
                      Ext ι h w ι' ((if q = true then h.set B none else h) ++ [some ⟨.grown i.size, old ++ new⟩]) w' := by
                  intro b' o' cap' old' hFo hol hoc hcap
                  have hrun := run_append_grow (P := P) w T ty E i zv hu hi z1 ⟨b', o', none⟩ len cap' old' hol (fun j v hv => by rw [add_plain]; exact hoc j v hv) ⟨xb, xo, none⟩ n c' new' hnl
                    (fun j v hv => by rw [add_plain]; exact hnew j v hv) hcap (by omega) (growslice_fits hcap (by omega))
                  have hg : len + n ≤ grownCap w (len + n) cap' E := grown_size w _ _ E (by unfold maxLen; omega)
                  generalize hgc : grownCap w (len + n) cap' E = gc at hrun hg
                  have hoF := hFo.length
                  have hsz : (old'.toArray ++ new'.toArray ++ Builtin.zeroCells zv.cells (gc - (len + n))).size = gc * i.size := by
                    rw [Array.size_append, Array.size_append, size_zeroCells, hzl]
                    simp only [List.size_toArray, hnl, hol, ← Nat.add_mul]
                    congr 1; omega
                  have hl : (len + n) * i.size ≤ gc * i.size := Nat.mul_le_mul_right _ hg
                  have hnn : (old ++ new).length = (len + n) * i.size := by rw [List.length_append, hoF, hFl, hol, hnl, ← Nat.add_mul]
                  -- the heap with the old block, or without
                  have step : ∀ h1 : Heap, h1.length = h.length → HR ι h1 w → Ext ι h w ι h1 w → ∃ w' ι' v', (Builtin.append_ #[T, T] ty #[.slice (some ⟨b', o', none⟩) len cap', .slice (some ⟨xb, xo, none⟩) n c']).run P w = .ok v' w' ∧
                      VR ι' (.slice (some ⟨h.length, 0, none⟩) (len + n) (len + n)) v' ∧ HR ι' (h1 ++ [some ⟨.grown i.size, old ++ new⟩]) w' ∧ Ext ι h w ι' (h1 ++ [some ⟨.grown i.size, old ++ new⟩]) w' := by
                    intro h1 hlen H1 E1
                    have hfit : Fits (upd ι h1.length ⟨w.heap.size, 0, (old ++ new).length, gc * i.size, i.size⟩) (w.drew.alloc (.cells (old'.toArray ++ new'.toArray ++ Builtin.zeroCells zv.cells (gc - (len + n))) E)) (.grown i.size) (old ++ new)
                        ⟨w.heap.size, 0, (old ++ new).length, gc * i.size, i.size⟩ := by
                      refine ⟨rfl, by simp only; omega, fun q => by simp only at q; omega, rfl, _, E, (0, 0), by show (w.heap.push _)[w.heap.size]? = _; exact Array.getElem?_push_size, by rw [hsz]; exact Nat.le_refl _, fun _ => rfl, ?_⟩
                      simp only [Array.toList_append, List.drop_zero]
                      have hll : (old ++ new).length = (old' ++ new').length := by simp [hoF, hFl]
                      rw [hll, List.take_left]
                      exact (hFo.append hFn).mono fun _ _ q => q.mono (H1.subU _)
                    refine ⟨_, _, _, hrun, ?_, H1.push (alloc_old w _) (Nat.le_refl _) hfit, E1.trans (Ext.push H1 (alloc_old w _) (by show _ ≤ (w.heap.push _).size; simp) (Nat.le_refl _) rfl rfl rfl)⟩
                    rw [← hlen]
                    exact vr_newSl (len + n) (len + n) gc rfl (.inr ⟨he, by simp only; omega, by simp only; omega, hg⟩)
                  cases q
                  · exact step h rfl H (Ext.refl ι h w)
                  · exact step (h.set B none) (by simp) (H.kill B) (Ext.kill ι h w B)
                rcases hv with ⟨cap', rfl, hc⟩ | ⟨rfl, rfl, b', o', rfl⟩
                · obtain ⟨old', f1, f2, f3⟩ := H.cells hold hlo
                  by_cases hg : cap' < len + n
                  · exact growth lo.b (lo.base + o) cap' old' f1 f2 f3 hg
                  · -- it goes into the room that the program has and the language doesn't see
                    rcases hc with h0 | ⟨h0, q1, q2, q3⟩
                    · omega
                    · have hkg : ∃ e0, blk.kind = .grown e0 ∧ e0 = i.size ∧ q = (o + cap * i.size == blk.cells.length) := by
                        rcases hkind with ⟨e0, k1, k2, k3, k4⟩ | ⟨k1, _⟩
                        · exact ⟨e0, k1, k2, k4⟩
                        · cases hkk : blk.kind with
                          | grown e1 => exact absurd hkk (k1 e1)
                          | ro => rw [hkk] at hbk; simp only at hbk; omega
                          | fix => rw [hkk] at hbk; simp only at hbk; omega
                      obtain ⟨e0, hkk, rfl, hqq⟩ := hkg
                      rw [hkk] at hbk hf0
                      simp only at hbk
                      have hq : q = true := by rw [hqq]; simp; rw [hbk] at q1; omega
                      subst hq
                      have hfc := hf0 (by simp)
                      subst hfc
                      rw [hbk] at q1 q2
                      have hm1 : (len + n) * i.size ≤ cap' * i.size := Nat.mul_le_mul_right _ (by omega)
                      have hm2 : (len + n) * i.size = len * i.size + n * i.size := Nat.add_mul _ _ _
                      have hst := run_storeCells_at P lo.b (lo.base + o + len * i.size) Tc new' 0 cc w hcc0 (by omega) (fun v hv => by
                        obtain ⟨j, hj⟩ := List.getElem?_of_mem hv
                        have : j < new.length := by rw [hFl]; exact (List.getElem?_eq_some_iff.1 hj).1
                        obtain ⟨u, hu', hr⟩ := hFn.get j new[j] (List.getElem?_eq_getElem this)
                        rw [hj] at hu'
                        cases hu'
                        exact vc_one hr)
                      simp only [Nat.add_zero] at hst
                      generalize hrow : (cc.toList.take (lo.base + o + len * i.size) ++ new' ++ cc.toList.drop (lo.base + o + len * i.size + new'.length)).toArray = row at hst
                      have hrowl : row.toList = cc.toList.take (lo.base + o + len * i.size) ++ new' ++ cc.toList.drop (lo.base + o + len * i.size + new'.length) := by rw [← hrow]
                      have hB := rd_some hblk
                      have hmut : blk.kind ≠ .ro := by rw [hkk]; simp
                      have hother : ∀ B' blk' l0, (h.set B none)[B']? = some (some blk') → ι B' = some l0 → l0.b ≠ lo.b ∧ (w.setRow lo.b row).heap[l0.b]? = w.heap[l0.b]? := by
                        intro B' blk' l0 e1 e2
                        obtain ⟨g1, g2⟩ := get_kill h B B' blk' e1
                        have := H.apart B B' blk blk' lo l0 hB g2 (fun q => g1 q.symm) hmut hlo e2
                        exact ⟨fun q => this q.symm, setRow_other w lo.b l0.b _ (fun q => this q.symm)⟩
                      have hnn : (old ++ new).length = (len + n) * i.size := by rw [List.length_append, f1.length, hFl, f2, hnl, ← Nat.add_mul]
                      have hlist : (row.toList.drop (lo.base + o)).take ((len + n) * i.size) = old' ++ new' := by
                        rw [hrowl]
                        have hold' : ∀ j, j < len * i.size → cc.toList[lo.base + o + j]? = old'[j]? := by
                          intro j hj
                          have hj' : j < old'.length := by rw [f2]; exact hj
                          have := f3 j old'[j] (List.getElem?_eq_getElem hj')
                          rw [cell_of hcc0] at this
                          rw [List.getElem?_eq_getElem hj', ← this, Array.getElem?_toList]
                        have hcl : lo.base + o + len * i.size + n * i.size ≤ cc.toList.length := by simp; omega
                        generalize cc.toList = cl at hold' hcl
                        apply List.ext_getElem?
                        intro j
                        simp only [List.getElem?_append, List.getElem?_take, List.getElem?_drop, List.length_take, List.length_append, f2, hnl]
                        by_cases g1 : j < (len + n) * i.size
                        · by_cases g2 : j < len * i.size
                          · have m1 : lo.base + o + j < min (lo.base + o + len * i.size) cl.length := by omega
                            have m2 : lo.base + o + j < min (lo.base + o + len * i.size) cl.length + n * i.size := by omega
                            have m3 : lo.base + o + j < lo.base + o + len * i.size := by omega
                            simp only [g1, g2, m1, m2, m3, if_true]
                            exact hold' j g2
                          · have m1 : ¬ lo.base + o + j < min (lo.base + o + len * i.size) cl.length := by omega
                            have m2 : lo.base + o + j < min (lo.base + o + len * i.size) cl.length + n * i.size := by omega
                            simp only [g1, g2, m1, m2, if_true, if_false]
                            congr 1; omega
                        · have g2 : ¬ j < len * i.size := by omega
                          simp only [g1, g2, if_false]
                          rw [List.getElem?_eq_none]
                          rw [hnl]; omega
                      have H1 := H.kill B
                      have hlen1 : (h.set B none).length = h.length := by simp
                      have hfit : Fits (upd ι (h.set B none).length ⟨lo.b, lo.base + o, (old ++ new).length, lo.N, i.size⟩) (w.setRow lo.b row) (.grown i.size) (old ++ new) ⟨lo.b, lo.base + o, (old ++ new).length, lo.N, i.size⟩ := by
                        refine ⟨rfl, by simp only; omega, fun q => by simp only at q; omega, rfl, row, Tc, (0, 0), setRow_heap w lo.b cc row Tc (0, 0) hcc0, ?_, fun _ => rfl, ?_⟩
                        · show lo.N ≤ row.size
                          rw [← Array.length_toList, hrowl]
                          simp; omega
                        · simp only
                          rw [hnn, hlist]
                          exact (f1.append hFn).mono fun _ _ q => q.mono (H1.subU _)
                      show ∃ w' ι' v', _ ∧ VR ι' _ v' ∧ HR ι' (h.set B none ++ [some ⟨.grown i.size, old ++ new⟩]) w' ∧ Ext ι h w ι' (h.set B none ++ [some ⟨.grown i.size, old ++ new⟩]) w'
                      refine ⟨_, upd ι (h.set B none).length ⟨lo.b, lo.base + o, (old ++ new).length, lo.N, i.size⟩, _, run_append_place (w' := w.setRow lo.b row) hu hi lo.b (lo.base + o) len cap' xb xo n c' new' hnl hnew (by omega) hst, ?_, H1.add hother hfit, ?_⟩
                      · rw [← hlen1]
                        exact .v0 (.sl (o := 0) (l := ⟨lo.b, lo.base + o, (old ++ new).length, lo.N, i.size⟩) (upd_same _ _) (.inr ⟨he, by show 0 + (len + n) * i.size = (old ++ new).length; omega, by show lo.base + o + 0 + cap' * i.size = lo.N; omega, by omega⟩))
                      · refine ⟨H1.subU _, by simp, fun b hb hno => setRow_other w lo.b b _ (fun q => hno B blk lo hB hmut hlo q.symm), fun B' blk' l0 e' hr hl0 => ?_, rfl, rfl, rfl, fun B' blk' l0 e' hl0 => ?_⟩
                        · rw [get_push] at e'
                          unfold upd at hl0
                          split at e'
                          · rename_i qq; rw [if_pos qq] at hl0; cases hl0; exact .inr ⟨B, blk, lo, hB, hmut, hlo, rfl⟩
                          · rename_i qq; rw [if_neg qq] at hl0; exact .inr ⟨B', blk', l0, (get_kill h B B' blk' e').2, hr, hl0, rfl⟩
                        · rw [get_push] at e'
                          unfold upd at hl0
                          split at e'
                          · rename_i qq; rw [if_pos qq] at hl0; cases hl0; exact .inr ⟨B, blk, lo, hB, hlo, rfl⟩
                          · rename_i qq; rw [if_neg qq] at hl0; exact .inr ⟨B', blk', l0, (get_kill h B B' blk' e').2, hl0, rfl⟩
                · obtain ⟨_, b0, _, hle, rfl⟩ := readN_some hold
                  refine growth b' o' 0 [] (by simp; exact .nil) (by simp) (by simp) (by omega)
              · cases e
            · cases e
    · cases e
  all_goals cases e

end Go.Am
