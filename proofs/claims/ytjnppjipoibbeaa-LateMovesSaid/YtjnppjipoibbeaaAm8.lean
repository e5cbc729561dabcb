/-
  Whatever operation leaves the heap alone: the language and the program agree.
-/
import Derived.Test.YtjnppjipoibbeaaAm7
namespace Go.Am
set_option linter.all false

variable {P : Program} {ι : Map} {h : Heap} {w : World} {t : Fr} {a : Act}

theorem mapM_same : ∀ {l l' : List Value} {bs : List UInt8}, l.mapM byteOf1 = some bs → F2 (VC ι) l l' → l' = l
  | [], _, _, _, .nil => rfl
  | v :: l, _, bs, e, .cons hv hl => by
    rw [List.mapM_cons] at e
    cases hb : byteOf1 v with
    | none => rw [hb] at e; simp at e
    | some x =>
      cases hm : l.mapM byteOf1 with
      | none => rw [hb, hm] at e; simp at e
      | some xs =>
        have h1 := mapM_same hm hl
        unfold byteOf1 at hb
        split at hb
        · rw [h1, (VR.vc hv).int_inv]
        · cases hb

theorem b2s_run (b o c : Nat) (l : List Value) (bs : List UInt8) (hc : ∀ j v, l[j]? = some v → w.cell? ⟨b, o + j, none⟩ = some v) (hm : l.mapM byteOf1 = some bs) :
    (Conv.bytesToString (.slice (some ⟨b, o, none⟩) l.length c)).run P w = .ok (.string ⟨⟨bs⟩⟩) w := by
  simp only [Conv.bytesToString, Sem.run_bind, run_cells hc, Result.andThen_ok]
  rw [← Array.forIn_toList]
  simp only
  have : (⟨⟨bs⟩⟩ : ByteArray) = ⟨⟨ByteArray.empty.data.toList ++ bs⟩⟩ := by rfl
  rw [this]
  clear this hc
  generalize ByteArray.empty = s
  induction l generalizing s bs with
  | nil => simp at hm; subst hm; simp
  | cons v l ih =>
    rw [List.mapM_cons] at hm
    cases hv : byteOf1 v with
    | none => rw [hv] at hm; simp at hm
    | some x =>
      cases hl : l.mapM byteOf1 with
      | none => rw [hv, hl] at hm; simp at hm
      | some xs =>
        rw [hv, hl] at hm
        simp at hm
        subst hm
        rw [List.forIn_cons]
        unfold byteOf1 at hv
        split at hv
        · rename_i n
          cases hv
          have := ih xs hl (s.push (UInt8.ofNat n.toNat))
          simp only [Sem.run_bind, Sem.run_pure, Result.andThen_ok] at this ⊢
          rw [this]
          simp [ByteArray.push]
        · cases hv

theorem pure_sim {o : Oper} {v : Value} (H : HR ι h w) (hF : F2 (VR ι) t a.tmps.toList) (e : pureA (stK P o.op) t h = some v) : PureOk P ι w a o v := by
  obtain ⟨dst, op, type, pos, after, guard⟩ := o
  cases op
  case move x =>
    simp only [stK] at e
    split at e
    · rename_i hx; cases e; exact ⟨_, by simp [execOp], ev_sim hF hx⟩
    · cases e
  case assign x =>
    simp only [stK] at e
    split at e
    · rename_i hx; cases e; exact ⟨_, by simp [execOp], ev_sim hF hx⟩
    · cases e
  case pick c x y =>
    simp only [stK] at e
    split at e
    · rename_i hx
      simp only [Bool.and_eq_true] at hx
      simp only [pureA] at e
      split at e
      · rename_i b hb
        cases e
        have hc := ev_sim hF hx.1.1
        rw [hb] at hc
        refine ⟨if b then a.eval x else a.eval y, ?_, ?_⟩
        · cases b <;> simp [execOp, hc.bool_inv, asBool]
        · cases b
          · exact ev_sim hF hx.2
          · exact ev_sim hF hx.1.2
      · cases e
    · cases e
  case build T ps =>
    have key : ∀ (place : Nat → Option (Nat × Nat)) (l : List (Nat × Nat × Operand)), stps place ps.toList = some l →
        (∀ p ∈ ps.toList, (place p.1).isSome = true) ∧ (∀ p ∈ ps.toList, VR ι (ev t p.2) (a.eval p.2)) ∧
        evps t l = (ps.toList.map fun p => (p.1, ev t p.2, a.eval p.2)).filterMap fun p => (place p.1).map fun q => (q.1, q.2, p.2.1) := by
      intro place
      generalize ps.toList = ps
      induction ps with
      | nil => intro l hl; simp [stps] at hl; subst hl; simp [evps]
      | cons p ps ih =>
        obtain ⟨i, x⟩ := p
        intro l hl
        simp only [stps] at hl
        split at hl
        · rename_i q l' hp hl'
          split at hl
          · rename_i hx
            cases hl
            obtain ⟨g1, g2, g3⟩ := ih l' hl'
            refine ⟨?_, ?_, ?_⟩
            · intro p hm; rcases List.mem_cons.1 hm with rfl | hm
              · simp [hp]
              · exact g1 p hm
            · intro p hm; rcases List.mem_cons.1 hm with rfl | hm
              · exact ev_sim hF hx
              · exact g2 p hm
            · simp only [evps, List.map_cons, List.filterMap_cons, hp, Option.map_some]
              rw [← g3]; rfl
          · cases hl
        · cases hl
    have fin : ∀ (place : Nat → Option (Nat × Nat)) (l : List (Nat × Nat × Operand)) (z : Array Value) (r : List Value), stps place ps.toList = some l → z.toList.all okCell = true → fillA z.toList (evps t l) = some r →
        ∃ r', Instr.fill place z (ps.map fun (i, x) => (i, a.eval x)).toList = some ⟨r'⟩ ∧ F2 (VC ι) r r' := by
      intro place l z r hl hz hr
      obtain ⟨g1, g2, g3⟩ := key place l hl
      rw [g3] at hr
      obtain ⟨r', h1, h2⟩ := fill_sim place _ z.toList z.toList r (okCells hz) (by
        intro p hp
        obtain ⟨q, hq, rfl⟩ := List.mem_map.1 hp
        exact g2 q hq) hr (by
        intro p hp
        obtain ⟨q, hq, rfl⟩ := List.mem_map.1 hp
        exact g1 q hq)
      refine ⟨r', ?_, h2⟩
      rw [← h1]
      simp [Function.comp_def]
    simp only [stK] at e
    split at e
    · rename_i fs z hu hz
      split at e
      · rename_i hall
        split at e
        · rename_i l hl
          simp only [pureA] at e
          split at e
          · rename_i r hr
            cases e
            obtain ⟨zv, z1, z2, z3⟩ := run_zero (w := w) hz
            obtain ⟨r', f1, f2⟩ := fin _ l z r hl z3 hr
            -- the places
            have hplaces : ∀ fs : Array Field, fs.toList.all (fun f => (P.info? f.type).isSome) = true →
                (fs.mapM fun f => do pure (f.offset, ← sizeOf f.type) : Sem (Array (Nat × Nat))).run P w = .ok (fs.map fun f => (f.offset, (szT P f.type).getD 0)) w := by
              intro fs hfs
              rw [Array.mapM_eq_mapM_toList]
              have : ∀ l : List Field, l.all (fun f => (P.info? f.type).isSome) = true → (l.mapM fun f => Prod.mk f.offset <$> sizeOf f.type : Sem (List (Nat × Nat))).run P w = .ok (l.map fun f => (f.offset, (szT P f.type).getD 0)) w := by
                intro l hl
                induction l with
                | nil => simp
                | cons f l ih =>
                  simp only [List.all_cons, Bool.and_eq_true] at hl
                  obtain ⟨i, hi⟩ := Option.isSome_iff_exists.1 hl.1
                  have hs : szT P f.type = some i.size := by simp [szT, hi]
                  simp only [List.mapM_cons, Sem.run_bind, Sem.run_map, run_sz hs, Result.andThen_ok, Sem.run_pure, ih hl.2, List.map_cons, hs, Option.getD_some]
              simp [this _ hfs]
              apply Array.ext'
              simp
            refine ⟨.agg ⟨r'⟩, ?_, .va (.agg f2)⟩
            have hpl0 := hplaces fs hall
            simp only [execOp, Instr.build, Sem.run_bind, z1, Result.andThen_ok, run_und hu, hpl0, z2]
            have hpl : (fun i => (fs.map fun f => (f.offset, (szT P f.type).getD 0))[i]?) = placeOf P fs := by
              funext i
              unfold placeOf
              rw [Array.getElem?_map]
              cases hi : fs[i]? with
              | none => rfl
              | some f =>
                have : (P.info? f.type).isSome = true := by
                  have hm : f ∈ fs.toList := by simpa using Array.mem_of_getElem? hi
                  exact List.all_eq_true.1 hall f hm
                obtain ⟨i, hi⟩ := Option.isSome_iff_exists.1 this
                simp [szT, hi]
            rw [hpl, f1]
            simp
          · cases e
        · cases e
      · cases e
    · rename_i n el z hu hz
      split at e
      · rename_i sz hs
        split at e
        · rename_i l hl
          simp only [pureA] at e
          split at e
          · rename_i r hr
            cases e
            obtain ⟨zv, z1, z2, z3⟩ := run_zero (w := w) hz
            obtain ⟨r', f1, f2⟩ := fin _ l z r hl z3 hr
            refine ⟨.agg ⟨r'⟩, ?_, .va (.agg f2)⟩
            simp only [execOp, Instr.build, Sem.run_bind, z1, Result.andThen_ok, run_und hu, run_sz hs, z2, f1]
            simp
          · cases e
        · cases e
      · cases e
    · cases e
  case load T x =>
    simp only [stK] at e
    split at e
    · rename_i n hn
      split at e
      · rename_i hx
        have hv := ev_sim hF hx
        simp only [pureA] at e
        split at e
        · rename_i p hp
          obtain ⟨B, o, s⟩ := p
          rw [hp] at hv
          obtain ⟨v', h1, h2⟩ := sim_load1 (P := P) H hn hv e
          exact ⟨v', by simp [execOp, h1], h2⟩
        · rename_i p n hp
          split at e
          · rename_i l hl
            cases e
            rw [hp] at hv
            obtain ⟨v', h1, h2⟩ := sim_loadN (P := P) H hn hv hl
            exact ⟨v', by simp [execOp, h1], h2⟩
          · cases e
        · cases e
      · cases e
    · cases e
  case nilCheck x =>
    simp only [stK] at e
    split at e
    · rename_i hx
      have hv := ev_sim hF hx
      simp only [pureA] at e
      split at e
      · rename_i p hp
        cases e
        obtain ⟨B, o, s⟩ := p
        rw [hp] at hv
        obtain ⟨rfl, l, hl, hv'⟩ := hv.ptr_inv
        exact ⟨a.eval x, by simp [execOp, hv'], hv⟩
      · cases e
    · cases e
  case binOp op T x y T' =>
    simp only [stK] at e
    split at e
    · rename_i hx
      simp only [Bool.and_eq_true] at hx
      have h1 := ev_sim hF hx.1
      have h2 := ev_sim hF hx.2
      have scal : ∀ {v}, binA op (ev t x) (ev t y) = some v → PureOk P ι w a { dst, op := .binOp op T x y T', type, pos, after, guard } v := by
        intro v e
        obtain ⟨q1, q2, q3, q4⟩ := binA_sim (P := P) (w := w) (T := T) e h1 h2
        refine ⟨v, ?_, .v0 (okCell_v0 (binA_scal e) ι)⟩
        simp only [execOp, q1, q2, Sem.run_bind, run_eqGuard op T x y q3, Result.andThen_ok, q4, Sem.run_pure]
      split at e
      · exact scal e
      · exact scal e
      · rename_i d n1 n2 hu
        have general : ∀ (neg : Bool) (c : EqC) (b : Bool), eqNeg op = some neg →
            eqFits P T d c → eqA c (ev t x) (ev t y) = some b → PureOk P ι w a { dst, op := .binOp op T x y T', type, pos, after, guard } (.bool (if neg then !b else b)) := by
          intro neg c b hn hc he
          obtain ⟨q1, q2⟩ := eqA_sim (w := w) hn hu hc he x y h1 h2
          exact ⟨_, by simp only [execOp, Sem.run_bind, q1, Result.andThen_ok, q2, Sem.run_pure], .bool ι _⟩
        split at e
        · rename_i neg hneg
          have hn : eqNeg op = some neg := hneg
          split at e
          · simp only [pureA] at e
            split at e
            · rename_i b hb; cases e; exact general neg .bool b hn trivial hb
            · cases e
          · split at e
            · rename_i m hm
              simp only [pureA] at e
              split at e
              · rename_i b hb; cases e; exact general neg .ptr b hn (by show (szT P _).isSome = true; rw [hm]; rfl) hb
              · cases e
            · cases e
          · simp only [pureA] at e
            split at e
            · rename_i b hb; cases e; exact general neg .slc b hn trivial hb
            · cases e
          · simp only [pureA] at e
            split at e
            · rename_i b hb; cases e; exact general neg .fn b hn trivial hb
            · cases e
          · split at e
            · cases e
            · rename_i hg
              split at e
              · rename_i g hl
                simp only [pureA] at e
                split at e
                · rename_i b hb; cases e; exact general neg (.cells g) b hn ⟨by simpa using hg, hl⟩ hb
                · cases e
              · cases e
          · split at e
            · cases e
            · rename_i hg
              split at e
              · rename_i g hl
                simp only [pureA] at e
                split at e
                · rename_i b hb; cases e; exact general neg (.cells g) b hn ⟨by simpa using hg, hl⟩ hb
                · cases e
              · cases e
          · cases e
        · cases e
      · cases e
    · cases e
  case unOp op T x =>
    simp only [stK] at e
    split at e
    · rename_i hx
      have hv := ev_sim hF hx
      simp only [pureA] at e
      unfold unA at e
      split at e
      · rename_i k n hk
        cases e
        rw [hk] at hv
        exact ⟨_, by simp [execOp, hv.int_inv, Op.unary, Op.intArith], .int ι _ _⟩
      · rename_i b hk
        cases e
        rw [hk] at hv
        exact ⟨_, by simp [execOp, hv.bool_inv, Op.unary], .bool ι _⟩
      · cases e
    · cases e
  case convert s d x =>
    simp only [stK] at e
    split at e
    · rename_i hx
      have hv := ev_sim hF hx
      split at e
      · rename_i k0 k hs hd
        simp only [pureA] at e
        split at e
        · rename_i k1 n hk
          cases e
          rw [hk] at hv
          exact ⟨_, by simp [execOp, hv.int_inv, convert, run_und hs, run_und hd, Conv.intToInt], .int ι _ _⟩
        · cases e
      · rename_i el hs hd
        split at e
        · rename_i he
          simp only [pureA] at e
          unfold b2sA at e
          split at e
          · rename_i n c hk
            cases e
            rw [hk] at hv
            exact ⟨_, by simp [execOp, hv.nilSl_inv, convert, run_und hs, run_und hd, run_und he, Conv.bytesToString], .v0 (.str _)⟩
          · rename_i p n c hk
            obtain ⟨B, o, s⟩ := p
            rw [hk] at hv
            split at e
            · rename_i l hl
              split at e
              · rename_i bs hbs
                cases e
                obtain ⟨rfl, lo, hlo, hv'⟩ := hv.sl_inv
                have hlen : l.length = n := by
                  obtain ⟨_, b0, _, hle, rfl⟩ := readN_some hl
                  simp; omega
                rcases hv' with ⟨c', hv', -⟩ | ⟨rfl, -, b', o', hv'⟩
                · obtain ⟨l', hF', hn', hc'⟩ := H.cells hl hlo
                  have := mapM_same hbs hF'
                  subst this
                  have hr := b2s_run (P := P) lo.b (lo.base + o) c' _ bs hc' hbs
                  rw [hn'] at hr
                  exact ⟨_, by simp only [execOp, hv', convert, Sem.run_bind, run_und hs, run_und hd, run_und he, Result.andThen_ok, hr, Sem.run_pure], .v0 (.str _)⟩
                · have h0 : l = [] := List.length_eq_zero_iff.1 hlen
                  subst h0
                  simp at hbs
                  subst hbs
                  have hr : (Conv.bytesToString (.slice (some ⟨b', o', none⟩) 0 0)).run P w = .ok (.string ⟨⟨[]⟩⟩) w := b2s_run (P := P) (w := w) b' o' 0 [] [] (by simp) rfl
                  exact ⟨_, by simp only [execOp, hv', convert, Sem.run_bind, run_und hs, run_und hd, run_und he, Result.andThen_ok, hr, Sem.run_pure], .v0 (.str _)⟩
              · cases e
            · cases e
          · cases e
        · cases e
      · cases e
    · cases e
  case makeFunc fn xs ys =>
    simp only [stK] at e
    split at e
    · rename_i hx
      simp only [Bool.and_eq_true] at hx
      simp only [pureA] at e
      split at e
      · rename_i hc
        cases e
        simp only [Bool.and_eq_true, List.all_eq_true] at hc
        have f0 : ∀ (l : List Operand), l.all opdOK = true → (∀ x ∈ l.map (ev t), flat0 x = true) → F2 (V0 ι) (l.map (ev t)) (l.map a.eval) := by
          intro l hl hq
          exact F2.map l fun x hm => (ev_sim hF (List.all_eq_true.1 hl x hm)).v0_inv (hq _ (List.mem_map.2 ⟨x, hm, rfl⟩))
        refine ⟨.func fn ⟨xs.toList.map a.eval⟩ ⟨ys.toList.map a.eval⟩, ?_, .vc (.fn fn (f0 _ hx.1 hc.1) (f0 _ hx.2 hc.2))⟩
        have q : ∀ l : Array Operand, (⟨l.toList.map a.eval⟩ : Array Value) = l.map a.eval := fun l => by apply Array.ext'; simp
        simp [execOp, Instr.makeFunc, q]
      · cases e
    · cases e
  case slice T x lo hi mx =>
    simp only [stK] at e
    split at e
    · rename_i hx
      simp only [Bool.and_eq_true] at hx
      have hv := ev_sim hF hx.1.1.1
      obtain ⟨a1, a2⟩ := optv_sim hF hx.1.1.2
      obtain ⟨b1, b2⟩ := optv_sim hF hx.1.2
      obtain ⟨c1, c2⟩ := optv_sim hF hx.2
      split at e
      · rename_i el hu
        split at e
        · rename_i n hn
          simp only [pureA] at e
          have hsl : ∃ p n c, ev t x = .slice p n c := by
            unfold sliceA at e
            split at e
            · rename_i p n c hp; exact ⟨p, n, c, hp⟩
            · cases e
          obtain ⟨v', g1, g2⟩ := slice_sim (P := P) H hu hn hv hsl e b1 b2 a1 a2 c1 c2
          exact ⟨v', by simp [execOp, g1], g2⟩
        · cases e
      · rename_i hu
        cases mx with
        | none =>
          obtain ⟨v', g1, g2⟩ := strslice_sim (P := P) (w := w) hu hv e b1 b2 a1 a2
          exact ⟨v', by simp [execOp, g1], g2⟩
        | some _ => cases e
      · rename_i n el hu
        cases mx with
        | none =>
          split at e
          · rename_i sz hsz hq
            obtain ⟨v', g1, g2⟩ := slarr_sim (P := P) (w := w) hu hsz hv e b1 b2 a1 a2
            exact ⟨v', by simp [execOp, g1], g2⟩
          · cases e
        | some _ =>
          split at e
          · rename_i hq; cases hq
          · cases e
      · cases e
    · cases e
  case fieldAddr T x f =>
    simp only [stK] at e
    split at e
    · rename_i fs hu
      split at e
      · rename_i fd hfd
        split at e
        · rename_i n hn
          split at e
          · rename_i hx
            simp only [Bool.and_eq_true, decide_eq_true_eq] at hx
            have hv := ev_sim hF hx.1
            simp only [pureA] at e
            split at e
            · rename_i B o hp
              cases e
              rw [hp] at hv
              obtain ⟨-, l, hl, hv'⟩ := hv.ptr_inv
              refine ⟨.pointer (some ⟨l.b, l.base + o + fd.offset, none⟩), ?_, by rw [Nat.add_assoc]; exact .v0 (.ptr hl)⟩
              have hne : ¬ n = 0 := by omega
              simp [execOp, hv', Instr.fieldAt, run_und hu, hfd, Instr.sureAddr, fieldPlace, run_sz hn, hne, add_plain]
            · cases e
          · cases e
        · cases e
      · cases e
    · cases e
  case field T x f =>
    simp only [stK] at e
    split at e
    · rename_i fs hu
      split at e
      · rename_i fd hfd
        split at e
        · rename_i n hn
          split at e
          · rename_i hx
            have hv := ev_sim hF hx
            simp only [pureA] at e
            split at e
            · rename_i cs hp
              rw [hp] at hv
              obtain ⟨cs', hv', hFc⟩ := hv.agg_inv
              obtain ⟨v', g1, g2⟩ := sim_part1 (P := P) (w := w) hn hFc e
              exact ⟨v', by simp [execOp, hv', Instr.field, run_und hu, hfd, asAgg, g1], g2⟩
            · rename_i cs n hp
              split at e
              · cases e
                rw [hp] at hv
                obtain ⟨cs', hv', hFc⟩ := hv.agg_inv
                obtain ⟨v', g1, g2⟩ := sim_partN (P := P) (w := w) (off := fd.offset) hn hFc
                exact ⟨v', by simp [execOp, hv', Instr.field, run_und hu, hfd, asAgg, g1], g2⟩
              · cases e
            · cases e
          · cases e
        · cases e
      · cases e
    · cases e
  case indexAddr T x i =>
    simp only [stK] at e
    split at e
    · rename_i hx
      simp only [Bool.and_eq_true] at hx
      have hv := ev_sim hF hx.1
      have hi := ev_sim hF hx.2
      split at e
      · rename_i n el hu
        split at e
        · rename_i sz hs
          simp only [pureA] at e
          split at e
          · rename_i B o m k j hp hq hj
            split at e
            · rename_i hb
              cases e
              cases hq
              rw [hp] at hv
              rw [hj] at hi
              obtain ⟨-, l, hl, hv'⟩ := hv.ptr_inv
              refine ⟨.pointer (some ⟨l.b, l.base + o + j.toNat * sz, none⟩), ?_, by rw [Nat.add_assoc]; exact .v0 (.ptr hl)⟩
              simp [execOp, hv', hi.int_inv, Instr.indexAt, asIntOf, run_und hu, Instr.sureAddr, run_sz hs, add_plain, hb.1, hb.2]
            · cases e
          · rename_i hq _; cases hq
          · cases e
        · cases e
      · rename_i el hu
        split at e
        · rename_i sz hs
          simp only [pureA] at e
          split at e
          · rename_i hq _; cases hq
          · rename_i B o n c k j hp hq hj
            split at e
            · rename_i hb
              cases e
              rw [hp] at hv
              rw [hj] at hi
              obtain ⟨-, l, hl, hv'⟩ := hv.sl_inv
              rcases hv' with ⟨c', hv', -⟩ | ⟨rfl, -, -⟩
              · refine ⟨.pointer (some ⟨l.b, l.base + o + j.toNat * sz, none⟩), ?_, by rw [Nat.add_assoc]; exact .v0 (.ptr hl)⟩
                simp [execOp, hv', hi.int_inv, Instr.indexAt, asIntOf, run_und hu, run_sz hs, add_plain, hb.1, hb.2]
              · omega
            · cases e
          · cases e
        · cases e
      · cases e
    · cases e
  case index T x i =>
    simp only [stK] at e
    split at e
    · rename_i hx
      simp only [Bool.and_eq_true] at hx
      have hv := ev_sim hF hx.1
      have hi := ev_sim hF hx.2
      split at e
      · rename_i n el hu
        split at e
        · rename_i sz m hs hm
          simp only [pureA] at e
          split at e
          · rename_i cs k j hp hj
            split at e
            · rename_i hb
              rw [hp] at hv
              rw [hj] at hi
              obtain ⟨cs', hv', hFc⟩ := hv.agg_inv
              obtain ⟨v', g1, g2⟩ := sim_part1 (P := P) (w := w) hm hFc e
              exact ⟨v', by simp [execOp, hv', hi.int_inv, Instr.index, asIntOf, run_und hu, run_sz hs, hb.1, hb.2, g1], g2⟩
            · cases e
          · rename_i cs q k j hp hj
            split at e
            · rename_i hb
              cases e
              rw [hp] at hv
              rw [hj] at hi
              obtain ⟨cs', hv', hFc⟩ := hv.agg_inv
              obtain ⟨v', g1, g2⟩ := sim_partN (P := P) (w := w) (off := j.toNat * sz) hm hFc
              exact ⟨v', by simp [execOp, hv', hi.int_inv, Instr.index, asIntOf, run_und hu, run_sz hs, hb.1, hb.2.1, g1], g2⟩
            · cases e
          · cases e
        · cases e
      · rename_i hu
        simp only [pureA] at e
        split at e
        · rename_i s k j hp hj
          split at e
          · rename_i hb
            split at e
            · rename_i b hbt
              cases e
              rw [hp] at hv
              rw [hj] at hi
              have : s[j.toNat]? = some b := by
                have := List.getElem?_eq_some_iff.1 hbt
                obtain ⟨h1, h2⟩ := this
                have h3 : j.toNat < s.size := by simpa using h1
                rw [getElem?_pos s j.toNat h3]
                congr 1
              exact ⟨_, by simp [execOp, hv.str_inv, hi.int_inv, Instr.index, asIntOf, run_und hu, hb, this], .int ι _ _⟩
            · cases e
          · cases e
        · cases e
      · cases e
    · cases e
  case extract x i =>
    simp only [stK] at e
    split at e
    · rename_i hx
      have hv := ev_sim hF hx
      simp only [pureA] at e
      split at e
      · rename_i vs hp
        rw [hp] at hv
        obtain ⟨vs', hv', hFv⟩ := hv.tup_inv
        obtain ⟨u, hu, hr⟩ := hFv.get _ _ e
        exact ⟨u, by simp [execOp, hv', Instr.extract, hu], .va hr⟩
      · cases e
    · cases e
  case call c =>
    simp only [stK] at e
    split at e
    · rename_i hargs
      split at e
      · rename_i f hc; cases e
      · rename_i x hc; cases e
      · rename_i b hc
        -- the arguments
        have hl : c.args.map a.eval = (c.args.toList.map a.eval).toArray := by apply Array.ext'; simp
        split at e
        · rename_i x T h1 h2
          have hv : VR ι (ev t x) (a.eval x) := ev_sim hF (by rw [h1] at hargs; simpa using hargs)
          have hT : c.argTypes[0]? = some T := by rw [← Array.getElem?_toList, h2]; rfl
          have hxa : c.args.map a.eval = #[a.eval x] := by rw [hl, h1]; rfl
          generalize a.eval x = u at hv hxa
          have run : ∀ (v : Value), (Builtin.len_ c.argTypes type #[u]).run P w = .ok v w → (execOp a.eval { dst, op := .call c, type, pos, after, guard }).run P w = .ok (.value v) w := by
            intro v hr
            simp [execOp, resolve, hc, hxa, invoke, builtin, hr]
          split at e
          · rename_i el hu
            simp only [pureA] at e
            split at e
            · rename_i p n c0 hp
              cases e
              rw [hp] at hv
              have h0 := hv.v0_inv rfl
              refine ⟨.int .i64 n, run _ ?_, .int ι _ _⟩
              cases h0 <;> simp [Builtin.len_, hT, run_und hu, goInt]
            · cases e
          · rename_i hu
            simp only [pureA] at e
            split at e
            · rename_i s hp
              cases e
              rw [hp] at hv
              cases hv.str_inv
              exact ⟨_, run _ (by simp [Builtin.len_, hT, run_und hu, goInt]), .int ι _ _⟩
            · cases e
          · rename_i n el hu
            cases e
            exact ⟨.int .i64 n, run _ (by simp [Builtin.len_, hT, run_und hu, goInt]), .int ι _ _⟩
          · rename_i q hu
            split at e
            · rename_i n el hq
              cases e
              exact ⟨.int .i64 n, run _ (by simp [Builtin.len_, hT, run_und hu, run_und hq, goInt]), .int ι _ _⟩
            · cases e
          · cases e
        · rename_i s x T U h1 h2
          split at e
          · split at e
            · split at e
              · split at e <;> cases e
              · cases e
            · cases e
          · cases e
        · rename_i s x T U h1 h2
          split at e
          · split at e
            · split at e <;> cases e
            · cases e
          · cases e
        · rename_i x y h1
          rw [h1] at hargs
          simp only [List.all_cons, List.all_nil, Bool.and_true, Bool.and_eq_true] at hargs
          have hx := ev_sim hF hargs.1
          have hy := ev_sim hF hargs.2
          have hxa : c.args.map a.eval = #[a.eval x, a.eval y] := by rw [hl, h1]; rfl
          simp only [pureA] at e
          split at e
          · rename_i k n k' m hp hq
            split at e
            · rename_i hk
              subst hk
              cases e
              rw [hp] at hx
              rw [hq] at hy
              exact ⟨_, by simp [execOp, resolve, hc, hxa, hx.int_inv, hy.int_inv, invoke, builtin, Builtin.min_, Builtin.min2], .int ι _ _⟩
            · cases e
          · cases e
        · rename_i x y h1
          rw [h1] at hargs
          simp only [List.all_cons, List.all_nil, Bool.and_true, Bool.and_eq_true] at hargs
          have hx := ev_sim hF hargs.1
          have hy := ev_sim hF hargs.2
          have hxa : c.args.map a.eval = #[a.eval x, a.eval y] := by rw [hl, h1]; rfl
          simp only [pureA] at e
          split at e
          · rename_i k n k' m hp hq
            split at e
            · rename_i hk
              subst hk
              cases e
              rw [hp] at hx
              rw [hq] at hy
              exact ⟨_, by simp [execOp, resolve, hc, hxa, hx.int_inv, hy.int_inv, invoke, builtin, Builtin.max_, Builtin.max2], .int ι _ _⟩
            · cases e
          · cases e
        · cases e
      · cases e
    · cases e
  all_goals (simp only [stK] at e; repeat' split at e)
  all_goals first | (simp only [pureA] at e; done) | skip
  all_goals cases e

end Go.Am
