/-
  A logic over the kit's wp, part AmB: Am8, Am9, Am10, Am11, Am12, Am13, Am14, Am15. No conditions.
-/
import Derived.Test.YtgdojnamjkhknaaQdAmA
namespace Go.Am
set_option linter.all false
variable {P : Program} {ι : Map} {h : Heap} {w : World} {t : Fr} {a : Act}
theorem mapM_same : ∀ {l l' : List Value} {bs : List UInt8}, l.mapM byteOf1 = some bs → F2 (VC ι) l l' → l' = l
 | [], _, _, _, .nil => rfl
 | v :: l, _, bs, e, .cons hv hl => by
  rw [List.mapM_cons] at e
  cases hb : byteOf1 v with
  | none => rw [hb] at e; simp at e
  | some x =>
   cases hm : l.mapM byteOf1 with
   | none => rw [hb, hm] at e; simp at e
   | some xs =>
    have h1 := mapM_same hm hl
    unfold byteOf1 at hb
    split at hb
    ·rw [h1, (VR.vc hv).int_inv]
    ·cases hb
theorem b2s_run (b o c : Nat) (l : List Value) (bs : List UInt8) (hc : ∀ j v, l[j]? = some v → w.cell? ⟨b, o + j, none⟩ = some v) (hm : l.mapM byteOf1 = some bs) :
  (Conv.bytesToString (.slice (some ⟨b, o, none⟩) l.length c)).run P w = .ok (.string ⟨⟨bs⟩⟩) w := by
 simp only [Conv.bytesToString, Sem.run_bind, run_cells hc, Result.andThen_ok]
 rw [← Array.forIn_toList]
 simp only
 have : (⟨⟨bs⟩⟩ : ByteArray) = ⟨⟨ByteArray.empty.data.toList ++ bs⟩⟩ := by rfl
 rw [this]
 clear this hc
 generalize ByteArray.empty = s
 induction l generalizing s bs with
 | nil => simp at hm; subst hm; simp
 | cons v l ih =>
  rw [List.mapM_cons] at hm
  cases hv : byteOf1 v with
  | none => rw [hv] at hm; simp at hm
  | some x =>
   cases hl : l.mapM byteOf1 with
   | none => rw [hv, hl] at hm; simp at hm
   | some xs =>
    rw [hv, hl] at hm
    simp at hm
    subst hm
    rw [List.forIn_cons]
    unfold byteOf1 at hv
    split at hv
    ·rename_i n
     cases hv
     have := ih xs hl (s.push (UInt8.ofNat n.toNat))
     simp only [Sem.run_bind, Sem.run_pure, Result.andThen_ok] at this ⊢
     rw [this]
     simp [ByteArray.push]
    ·cases hv
theorem pure_sim {o : Oper} {v : Value} (H : HR ι h w) (hF : F2 (VR ι) t a.tmps.toList) (e : pureA (stK P o.op) t h = some v) : PureOk P ι w a o v := by
 obtain ⟨dst, op, type, pos, after, guard⟩ := o
 cases op
 case move x =>
  simp only [stK] at e
  split at e
  ·rename_i hx; cases e; exact ⟨_, by simp [execOp], ev_sim hF hx⟩
  ·cases e
 case assign x =>
  simp only [stK] at e
  split at e
  ·rename_i hx; cases e; exact ⟨_, by simp [execOp], ev_sim hF hx⟩
  ·cases e
 case pick c x y =>
  simp only [stK] at e
  split at e
  ·rename_i hx
   simp only [Bool.and_eq_true] at hx
   simp only [pureA] at e
   split at e
   ·rename_i b hb
    cases e
    have hc := ev_sim hF hx.1.1
    rw [hb] at hc
    refine ⟨if b then a.eval x else a.eval y, ?_, ?_⟩
    ·cases b <;> simp [execOp, hc.bool_inv, asBool]
    ·cases b
     ·exact ev_sim hF hx.2
     ·exact ev_sim hF hx.1.2
   ·cases e
  ·cases e
 case build T ps =>
  have key : ∀ (place : Nat → Option (Nat × Nat)) (l : List (Nat × Nat × Operand)), stps place ps.toList = some l →
    (∀ p ∈ ps.toList, (place p.1).isSome = true) ∧ (∀ p ∈ ps.toList, VR ι (ev t p.2) (a.eval p.2)) ∧
    evps t l = (ps.toList.map fun p => (p.1, ev t p.2, a.eval p.2)).filterMap fun p => (place p.1).map fun q => (q.1, q.2, p.2.1) := by
   intro place
   generalize ps.toList = ps
   induction ps with
   | nil => intro l hl; simp [stps] at hl; subst hl; simp [evps]
   | cons p ps ih =>
    obtain ⟨i, x⟩ := p
    intro l hl
    simp only [stps] at hl
    split at hl
    ·rename_i q l' hp hl'
     split at hl
     ·rename_i hx
      cases hl
      obtain ⟨g1, g2, g3⟩ := ih l' hl'
      refine ⟨?_, ?_, ?_⟩
      ·intro p hm; rcases List.mem_cons.1 hm with rfl | hm
       ·simp [hp]
       ·exact g1 p hm
      ·intro p hm; rcases List.mem_cons.1 hm with rfl | hm
       ·exact ev_sim hF hx
       ·exact g2 p hm
      ·simp only [evps, List.map_cons, List.filterMap_cons, hp, Option.map_some]
       rw [← g3]; rfl
     ·cases hl
    ·cases hl
  have fin : ∀ (place : Nat → Option (Nat × Nat)) (l : List (Nat × Nat × Operand)) (z : Array Value) (r : List Value), stps place ps.toList = some l → z.toList.all okCell = true → fillA z.toList (evps t l) = some r →
    ∃ r', Instr.fill place z (ps.map fun (i, x) => (i, a.eval x)).toList = some ⟨r'⟩ ∧ F2 (VC ι) r r' := by
   intro place l z r hl hz hr
   obtain ⟨g1, g2, g3⟩ := key place l hl
   rw [g3] at hr
   obtain ⟨r', h1, h2⟩ := fill_sim place _ z.toList z.toList r (okCells hz) (by
    intro p hp
    obtain ⟨q, hq, rfl⟩ := List.mem_map.1 hp
    exact g2 q hq) hr (by
    intro p hp
    obtain ⟨q, hq, rfl⟩ := List.mem_map.1 hp
    exact g1 q hq)
   refine ⟨r', ?_, h2⟩
   rw [← h1]
   simp [Function.comp_def]
  simp only [stK] at e
  split at e
  ·rename_i fs z hu hz
   split at e
   ·rename_i hall
    split at e
    ·rename_i l hl
     simp only [pureA] at e
     split at e
     ·rename_i r hr
      cases e
      obtain ⟨zv, z1, z2, z3⟩ := run_zero (w := w) hz
      obtain ⟨r', f1, f2⟩ := fin _ l z r hl z3 hr
      have hplaces : ∀ fs : Array Field, fs.toList.all (fun f => (P.info? f.type).isSome) = true →
        (fs.mapM fun f => do pure (f.offset, ← sizeOf f.type) : Sem (Array (Nat × Nat))).run P w = .ok (fs.map fun f => (f.offset, (szT P f.type).getD 0)) w := by
       intro fs hfs
       rw [Array.mapM_eq_mapM_toList]
       have : ∀ l : List Field, l.all (fun f => (P.info? f.type).isSome) = true → (l.mapM fun f => Prod.mk f.offset <$> sizeOf f.type : Sem (List (Nat × Nat))).run P w = .ok (l.map fun f => (f.offset, (szT P f.type).getD 0)) w := by
        intro l hl
        induction l with
        | nil => simp
        | cons f l ih =>
         simp only [List.all_cons, Bool.and_eq_true] at hl
         obtain ⟨i, hi⟩ := Option.isSome_iff_exists.1 hl.1
         have hs : szT P f.type = some i.size := by simp [szT, hi]
         simp only [List.mapM_cons, Sem.run_bind, Sem.run_map, run_sz hs, Result.andThen_ok, Sem.run_pure, ih hl.2, List.map_cons, hs, Option.getD_some]
       simp [this _ hfs]
       apply Array.ext'
       simp
      refine ⟨.agg ⟨r'⟩, ?_, .va (.agg f2)⟩
      have hpl0 := hplaces fs hall
      simp only [execOp, Instr.build, Sem.run_bind, z1, Result.andThen_ok, run_und hu, hpl0, z2]
      have hpl : (fun i => (fs.map fun f => (f.offset, (szT P f.type).getD 0))[i]?) = placeOf P fs := by
       funext i
       unfold placeOf
       rw [Array.getElem?_map]
       cases hi : fs[i]? with
       | none => rfl
       | some f =>
        have : (P.info? f.type).isSome = true := by
         have hm : f ∈ fs.toList := by simpa using Array.mem_of_getElem? hi
         exact List.all_eq_true.1 hall f hm
        obtain ⟨i, hi⟩ := Option.isSome_iff_exists.1 this
        simp [szT, hi]
      rw [hpl, f1]
      simp
     ·cases e
    ·cases e
   ·cases e
  ·rename_i n el z hu hz
   split at e
   ·rename_i sz hs
    split at e
    ·rename_i l hl
     simp only [pureA] at e
     split at e
     ·rename_i r hr
      cases e
      obtain ⟨zv, z1, z2, z3⟩ := run_zero (w := w) hz
      obtain ⟨r', f1, f2⟩ := fin _ l z r hl z3 hr
      refine ⟨.agg ⟨r'⟩, ?_, .va (.agg f2)⟩
      simp only [execOp, Instr.build, Sem.run_bind, z1, Result.andThen_ok, run_und hu, run_sz hs, z2, f1]
      simp
     ·cases e
    ·cases e
   ·cases e
  ·cases e
 case load T x =>
  simp only [stK] at e
  split at e
  ·rename_i n hn
   split at e
   ·rename_i hx
    have hv := ev_sim hF hx
    simp only [pureA] at e
    split at e
    ·rename_i p hp
     obtain ⟨B, o, s⟩ := p
     rw [hp] at hv
     obtain ⟨v', h1, h2⟩ := sim_load1 (P := P) H hn hv e
     exact ⟨v', by simp [execOp, h1], h2⟩
    ·rename_i p n hp
     split at e
     ·rename_i l hl
      cases e
      rw [hp] at hv
      obtain ⟨v', h1, h2⟩ := sim_loadN (P := P) H hn hv hl
      exact ⟨v', by simp [execOp, h1], h2⟩
     ·cases e
    ·cases e
   ·cases e
  ·cases e
 case nilCheck x =>
  simp only [stK] at e
  split at e
  ·rename_i hx
   have hv := ev_sim hF hx
   simp only [pureA] at e
   split at e
   ·rename_i p hp
    cases e
    obtain ⟨B, o, s⟩ := p
    rw [hp] at hv
    obtain ⟨rfl, l, hl, hv'⟩ := hv.ptr_inv
    exact ⟨a.eval x, by simp [execOp, hv'], hv⟩
   ·cases e
  ·cases e
 case binOp op T x y T' =>
  simp only [stK] at e
  split at e
  ·rename_i hx
   simp only [Bool.and_eq_true] at hx
   have h1 := ev_sim hF hx.1
   have h2 := ev_sim hF hx.2
   have scal : ∀ {v}, binA op (ev t x) (ev t y) = some v → PureOk P ι w a { dst, op := .binOp op T x y T', type, pos, after, guard } v := by
    intro v e
    obtain ⟨q1, q2, q3, q4⟩ := binA_sim (P := P) (w := w) (T := T) e h1 h2
    refine ⟨v, ?_, .v0 (okCell_v0 (binA_scal e) ι)⟩
    simp only [execOp, q1, q2, Sem.run_bind, run_eqGuard op T x y q3, Result.andThen_ok, q4, Sem.run_pure]
   split at e
   ·exact scal e
   ·exact scal e
   ·rename_i d n1 n2 hu
    have general : ∀ (neg : Bool) (c : EqC) (b : Bool), eqNeg op = some neg →
      eqFits P T d c → eqA c (ev t x) (ev t y) = some b → PureOk P ι w a { dst, op := .binOp op T x y T', type, pos, after, guard } (.bool (if neg then !b else b)) := by
     intro neg c b hn hc he
     obtain ⟨q1, q2⟩ := eqA_sim (w := w) hn hu hc he x y h1 h2
     exact ⟨_, by simp only [execOp, Sem.run_bind, q1, Result.andThen_ok, q2, Sem.run_pure], .bool ι _⟩
    split at e
    ·rename_i neg hneg
     have hn : eqNeg op = some neg := hneg
     split at e
     ·simp only [pureA] at e
      split at e
      ·rename_i b hb; cases e; exact general neg .bool b hn trivial hb
      ·cases e
     ·split at e
      ·rename_i m hm
       simp only [pureA] at e
       split at e
       ·rename_i b hb; cases e; exact general neg .ptr b hn (by show (szT P _).isSome = true; rw [hm]; rfl) hb
       ·cases e
      ·cases e
     ·simp only [pureA] at e
      split at e
      ·rename_i b hb; cases e; exact general neg .slc b hn trivial hb
      ·cases e
     ·simp only [pureA] at e
      split at e
      ·rename_i b hb; cases e; exact general neg .fn b hn trivial hb
      ·cases e
     ·split at e
      ·cases e
      ·rename_i hg
       split at e
       ·rename_i g hl
        simp only [pureA] at e
        split at e
        ·rename_i b hb; cases e; exact general neg (.cells g) b hn ⟨by simpa using hg, hl⟩ hb
        ·cases e
       ·cases e
     ·split at e
      ·cases e
      ·rename_i hg
       split at e
       ·rename_i g hl
        simp only [pureA] at e
        split at e
        ·rename_i b hb; cases e; exact general neg (.cells g) b hn ⟨by simpa using hg, hl⟩ hb
        ·cases e
       ·cases e
     ·cases e
    ·cases e
   ·cases e
  ·cases e
 case unOp op T x =>
  simp only [stK] at e
  split at e
  ·rename_i hx
   have hv := ev_sim hF hx
   simp only [pureA] at e
   unfold unA at e
   split at e
   ·rename_i k n hk
    cases e
    rw [hk] at hv
    exact ⟨_, by simp [execOp, hv.int_inv, Op.unary, Op.intArith], .int ι _ _⟩
   ·rename_i b hk
    cases e
    rw [hk] at hv
    exact ⟨_, by simp [execOp, hv.bool_inv, Op.unary], .bool ι _⟩
   ·cases e
  ·cases e
 case convert s d x =>
  simp only [stK] at e
  split at e
  ·rename_i hx
   have hv := ev_sim hF hx
   split at e
   ·rename_i k0 k hs hd
    simp only [pureA] at e
    split at e
    ·rename_i k1 n hk
     cases e
     rw [hk] at hv
     exact ⟨_, by simp [execOp, hv.int_inv, convert, run_und hs, run_und hd, Conv.intToInt], .int ι _ _⟩
    ·cases e
   ·rename_i el hs hd
    split at e
    ·rename_i he
     simp only [pureA] at e
     unfold b2sA at e
     split at e
     ·rename_i n c hk
      cases e
      rw [hk] at hv
      exact ⟨_, by simp [execOp, hv.nilSl_inv, convert, run_und hs, run_und hd, run_und he, Conv.bytesToString], .v0 (.str _)⟩
     ·rename_i p n c hk
      obtain ⟨B, o, s⟩ := p
      rw [hk] at hv
      split at e
      ·rename_i l hl
       split at e
       ·rename_i bs hbs
        cases e
        obtain ⟨rfl, lo, hlo, hv'⟩ := hv.sl_inv
        have hlen : l.length = n := by
         obtain ⟨_, b0, _, hle, rfl⟩ := readN_some hl
         simp; omega
        rcases hv' with ⟨c', hv', -⟩ | ⟨rfl, -, a', hv'⟩
        ·obtain ⟨l', hF', hn', hc'⟩ := H.cells hl hlo
         have := mapM_same hbs hF'
         subst this
         have hr := b2s_run (P := P) lo.b (lo.base + o) c' _ bs hc' hbs
         rw [hn'] at hr
         exact ⟨_, by simp only [execOp, hv', convert, Sem.run_bind, run_und hs, run_und hd, run_und he, Result.andThen_ok, hr, Sem.run_pure], .v0 (.str _)⟩
        ·have h0 : l = [] := List.length_eq_zero_iff.1 hlen
         subst h0
         simp at hbs
         subst hbs
         have hr : (Conv.bytesToString (.slice (some a') 0 0)).run P w = .ok (.string ⟨⟨[]⟩⟩) w := by
          have hc0 : (loadCells a' 0).run P w = .ok #[] w := run_loadCells_list (P := P) w a' [] (fun j v hv => by simp at hv)
          simp only [Conv.bytesToString, Sem.run_bind, hc0, Result.andThen_ok]
          simp
          rfl
         exact ⟨_, by simp only [execOp, hv', convert, Sem.run_bind, run_und hs, run_und hd, run_und he, Result.andThen_ok, hr, Sem.run_pure], .v0 (.str _)⟩
       ·cases e
      ·cases e
     ·cases e
    ·cases e
   ·cases e
  ·cases e
 case makeFunc fn xs ys =>
  simp only [stK] at e
  split at e
  ·rename_i hx
   simp only [Bool.and_eq_true] at hx
   simp only [pureA] at e
   split at e
   ·rename_i hc
    cases e
    simp only [Bool.and_eq_true, List.all_eq_true] at hc
    have f0 : ∀ (l : List Operand), l.all opdOK = true → (∀ x ∈ l.map (ev t), flat0 x = true) → F2 (V0 ι) (l.map (ev t)) (l.map a.eval) := by
     intro l hl hq
     exact F2.map l fun x hm => (ev_sim hF (List.all_eq_true.1 hl x hm)).v0_inv (hq _ (List.mem_map.2 ⟨x, hm, rfl⟩))
    refine ⟨.func fn ⟨xs.toList.map a.eval⟩ ⟨ys.toList.map a.eval⟩, ?_, .vc (.fn fn (f0 _ hx.1 hc.1) (f0 _ hx.2 hc.2))⟩
    have q : ∀ l : Array Operand, (⟨l.toList.map a.eval⟩ : Array Value) = l.map a.eval := fun l => by apply Array.ext'; simp
    simp [execOp, Instr.makeFunc, q]
   ·cases e
  ·cases e
 case slice T x lo hi mx =>
  simp only [stK] at e
  split at e
  ·rename_i hx
   simp only [Bool.and_eq_true] at hx
   have hv := ev_sim hF hx.1.1.1
   obtain ⟨a1, a2⟩ := optv_sim hF hx.1.1.2
   obtain ⟨b1, b2⟩ := optv_sim hF hx.1.2
   obtain ⟨c1, c2⟩ := optv_sim hF hx.2
   split at e
   ·rename_i el hu
    split at e
    ·rename_i n hn
     simp only [pureA] at e
     have hsl : ∃ p n c, ev t x = .slice p n c := by
      unfold sliceA at e
      split at e
      ·rename_i p n c hp; exact ⟨p, n, c, hp⟩
      ·cases e
     obtain ⟨v', g1, g2⟩ := slice_sim (P := P) H hu hn hv hsl e b1 b2 a1 a2 c1 c2
     exact ⟨v', by simp [execOp, g1], g2⟩
    ·cases e
   ·rename_i hu
    cases mx with
    | none =>
     obtain ⟨v', g1, g2⟩ := strslice_sim (P := P) (w := w) hu hv e b1 b2 a1 a2
     exact ⟨v', by simp [execOp, g1], g2⟩
    | some _ => cases e
   ·rename_i n el hu
    cases mx with
    | none =>
     split at e
     ·rename_i sz hsz hq
      obtain ⟨v', g1, g2⟩ := slarr_sim (P := P) (w := w) hu hsz hv e b1 b2 a1 a2
      exact ⟨v', by simp [execOp, g1], g2⟩
     ·cases e
    | some _ =>
     split at e
     ·rename_i hq; cases hq
     ·cases e
   ·cases e
  ·cases e
 case fieldAddr T x f =>
  simp only [stK] at e
  split at e
  ·rename_i fs hu
   split at e
   ·rename_i fd hfd
    split at e
    ·rename_i n hn
     split at e
     ·rename_i hx
      simp only [Bool.and_eq_true, decide_eq_true_eq] at hx
      have hv := ev_sim hF hx.1
      simp only [pureA] at e
      split at e
      ·rename_i B o hp
       cases e
       rw [hp] at hv
       obtain ⟨-, l, hl, hv'⟩ := hv.ptr_inv
       refine ⟨.pointer (some ⟨l.b, l.base + o + fd.offset, none⟩), ?_, by rw [Nat.add_assoc]; exact .v0 (.ptr hl)⟩
       have hne : ¬ n = 0 := by omega
       simp [execOp, hv', Instr.fieldAt, run_und hu, hfd, Instr.sureAddr, fieldPlace, run_sz hn, hne, add_plain]
      ·cases e
     ·cases e
    ·cases e
   ·cases e
  ·cases e
 case field T x f =>
  simp only [stK] at e
  split at e
  ·rename_i fs hu
   split at e
   ·rename_i fd hfd
    split at e
    ·rename_i n hn
     split at e
     ·rename_i hx
      have hv := ev_sim hF hx
      simp only [pureA] at e
      split at e
      ·rename_i cs hp
       rw [hp] at hv
       obtain ⟨cs', hv', hFc⟩ := hv.agg_inv
       obtain ⟨v', g1, g2⟩ := sim_part1 (P := P) (w := w) hn hFc e
       exact ⟨v', by simp [execOp, hv', Instr.field, run_und hu, hfd, asAgg, g1], g2⟩
      ·rename_i cs n hp
       split at e
       ·cases e
        rw [hp] at hv
        obtain ⟨cs', hv', hFc⟩ := hv.agg_inv
        obtain ⟨v', g1, g2⟩ := sim_partN (P := P) (w := w) (off := fd.offset) hn hFc
        exact ⟨v', by simp [execOp, hv', Instr.field, run_und hu, hfd, asAgg, g1], g2⟩
       ·cases e
      ·cases e
     ·cases e
    ·cases e
   ·cases e
  ·cases e
 case indexAddr T x i =>
  simp only [stK] at e
  split at e
  ·rename_i hx
   simp only [Bool.and_eq_true] at hx
   have hv := ev_sim hF hx.1
   have hi := ev_sim hF hx.2
   split at e
   ·rename_i n el hu
    split at e
    ·rename_i sz hs
     simp only [pureA] at e
     split at e
     ·rename_i B o m k j hp hq hj
      split at e
      ·rename_i hb
       cases e
       cases hq
       rw [hp] at hv
       rw [hj] at hi
       obtain ⟨-, l, hl, hv'⟩ := hv.ptr_inv
       refine ⟨.pointer (some ⟨l.b, l.base + o + j.toNat * sz, none⟩), ?_, by rw [Nat.add_assoc]; exact .v0 (.ptr hl)⟩
       simp [execOp, hv', hi.int_inv, Instr.indexAt, asIntOf, run_und hu, Instr.sureAddr, run_sz hs, add_plain, hb.1, hb.2]
      ·cases e
     ·rename_i hq _; cases hq
     ·cases e
    ·cases e
   ·rename_i el hu
    split at e
    ·rename_i sz hs
     simp only [pureA] at e
     split at e
     ·rename_i hq _; cases hq
     ·rename_i B o n c k j hp hq hj
      split at e
      ·rename_i hb
       cases e
       rw [hp] at hv
       rw [hj] at hi
       obtain ⟨-, l, hl, hv'⟩ := hv.sl_inv
       rcases hv' with ⟨c', hv', -⟩ | ⟨rfl, -, -⟩
       ·refine ⟨.pointer (some ⟨l.b, l.base + o + j.toNat * sz, none⟩), ?_, by rw [Nat.add_assoc]; exact .v0 (.ptr hl)⟩
        simp [execOp, hv', hi.int_inv, Instr.indexAt, asIntOf, run_und hu, run_sz hs, add_plain, hb.1, hb.2]
       ·omega
      ·cases e
     ·cases e
    ·cases e
   ·cases e
  ·cases e
 case index T x i =>
  simp only [stK] at e
  split at e
  ·rename_i hx
   simp only [Bool.and_eq_true] at hx
   have hv := ev_sim hF hx.1
   have hi := ev_sim hF hx.2
   split at e
   ·rename_i n el hu
    split at e
    ·rename_i sz m hs hm
     simp only [pureA] at e
     split at e
     ·rename_i cs k j hp hj
      split at e
      ·rename_i hb
       rw [hp] at hv
       rw [hj] at hi
       obtain ⟨cs', hv', hFc⟩ := hv.agg_inv
       obtain ⟨v', g1, g2⟩ := sim_part1 (P := P) (w := w) hm hFc e
       exact ⟨v', by simp [execOp, hv', hi.int_inv, Instr.index, asIntOf, run_und hu, run_sz hs, hb.1, hb.2, g1], g2⟩
      ·cases e
     ·rename_i cs q k j hp hj
      split at e
      ·rename_i hb
       cases e
       rw [hp] at hv
       rw [hj] at hi
       obtain ⟨cs', hv', hFc⟩ := hv.agg_inv
       obtain ⟨v', g1, g2⟩ := sim_partN (P := P) (w := w) (off := j.toNat * sz) hm hFc
       exact ⟨v', by simp [execOp, hv', hi.int_inv, Instr.index, asIntOf, run_und hu, run_sz hs, hb.1, hb.2.1, g1], g2⟩
      ·cases e
     ·cases e
    ·cases e
   ·rename_i hu
    simp only [pureA] at e
    split at e
    ·rename_i s k j hp hj
     split at e
     ·rename_i hb
      split at e
      ·rename_i b hbt
       cases e
       rw [hp] at hv
       rw [hj] at hi
       have : s[j.toNat]? = some b := by
        have := List.getElem?_eq_some_iff.1 hbt
        obtain ⟨h1, h2⟩ := this
        have h3 : j.toNat < s.size := by simpa using h1
        rw [getElem?_pos s j.toNat h3]
        congr 1
       exact ⟨_, by simp [execOp, hv.str_inv, hi.int_inv, Instr.index, asIntOf, run_und hu, hb, this], .int ι _ _⟩
      ·cases e
     ·cases e
    ·cases e
   ·cases e
  ·cases e
 case extract x i =>
  simp only [stK] at e
  split at e
  ·rename_i hx
   have hv := ev_sim hF hx
   simp only [pureA] at e
   split at e
   ·rename_i vs hp
    rw [hp] at hv
    obtain ⟨vs', hv', hFv⟩ := hv.tup_inv
    obtain ⟨u, hu, hr⟩ := hFv.get _ _ e
    exact ⟨u, by simp [execOp, hv', Instr.extract, hu], .va hr⟩
   ·cases e
  ·cases e
 case call c =>
  simp only [stK] at e
  split at e
  ·rename_i hargs
   split at e
   ·rename_i f hc; cases e
   ·rename_i x hc; cases e
   ·rename_i b hc
    have hl : c.args.map a.eval = (c.args.toList.map a.eval).toArray := by apply Array.ext'; simp
    split at e
    ·rename_i x T h1 h2
     have hv : VR ι (ev t x) (a.eval x) := ev_sim hF (by rw [h1] at hargs; simpa using hargs)
     have hT : c.argTypes[0]? = some T := by rw [← Array.getElem?_toList, h2]; rfl
     have hxa : c.args.map a.eval = #[a.eval x] := by rw [hl, h1]; rfl
     generalize a.eval x = u at hv hxa
     have run : ∀ (v : Value), (Builtin.len_ c.argTypes type #[u]).run P w = .ok v w → (execOp a.eval { dst, op := .call c, type, pos, after, guard }).run P w = .ok (.value v) w := by
      intro v hr
      simp [execOp, resolve, hc, hxa, invoke, builtin, hr]
     split at e
     ·rename_i el hu
      simp only [pureA] at e
      split at e
      ·rename_i p n c0 hp
       cases e
       rw [hp] at hv
       have h0 := hv.v0_inv rfl
       refine ⟨.int .i64 n, run _ ?_, .int ι _ _⟩
       cases h0 <;> simp [Builtin.len_, hT, run_und hu, goInt]
      ·cases e
     ·rename_i hu
      simp only [pureA] at e
      split at e
      ·rename_i s hp
       cases e
       rw [hp] at hv
       cases hv.str_inv
       exact ⟨_, run _ (by simp [Builtin.len_, hT, run_und hu, goInt]), .int ι _ _⟩
      ·cases e
     ·rename_i n el hu
      cases e
      exact ⟨.int .i64 n, run _ (by simp [Builtin.len_, hT, run_und hu, goInt]), .int ι _ _⟩
     ·rename_i q hu
      split at e
      ·rename_i n el hq
       cases e
       exact ⟨.int .i64 n, run _ (by simp [Builtin.len_, hT, run_und hu, run_und hq, goInt]), .int ι _ _⟩
      ·cases e
     ·cases e
    ·rename_i s x T U h1 h2
     split at e
     ·split at e
      ·split at e
       ·split at e <;> cases e
       ·cases e
      ·cases e
     ·cases e
    ·rename_i s x T U h1 h2
     split at e
     ·split at e
      ·split at e <;> cases e
      ·cases e
     ·cases e
    ·rename_i x y h1
     rw [h1] at hargs
     simp only [List.all_cons, List.all_nil, Bool.and_true, Bool.and_eq_true] at hargs
     have hx := ev_sim hF hargs.1
     have hy := ev_sim hF hargs.2
     have hxa : c.args.map a.eval = #[a.eval x, a.eval y] := by rw [hl, h1]; rfl
     simp only [pureA] at e
     split at e
     ·rename_i k n k' m hp hq
      split at e
      ·rename_i hk
       subst hk
       cases e
       rw [hp] at hx
       rw [hq] at hy
       exact ⟨_, by simp [execOp, resolve, hc, hxa, hx.int_inv, hy.int_inv, invoke, builtin, Builtin.min_, Builtin.min2], .int ι _ _⟩
      ·cases e
     ·cases e
    ·rename_i x y h1
     rw [h1] at hargs
     simp only [List.all_cons, List.all_nil, Bool.and_true, Bool.and_eq_true] at hargs
     have hx := ev_sim hF hargs.1
     have hy := ev_sim hF hargs.2
     have hxa : c.args.map a.eval = #[a.eval x, a.eval y] := by rw [hl, h1]; rfl
     simp only [pureA] at e
     split at e
     ·rename_i k n k' m hp hq
      split at e
      ·rename_i hk
       subst hk
       cases e
       rw [hp] at hx
       rw [hq] at hy
       exact ⟨_, by simp [execOp, resolve, hc, hxa, hx.int_inv, hy.int_inv, invoke, builtin, Builtin.max_, Builtin.max2], .int ι _ _⟩
      ·cases e
     ·cases e
    ·cases e
   ·cases e
  ·cases e
 all_goals (simp only [stK] at e; repeat' split at e)
 all_goals first | (simp only [pureA] at e; done) | skip
 all_goals cases e
end Go.Am
namespace Go.Am
set_option linter.all false
variable {P : Program} {ι : Map} {h : Heap} {w w' : World} {t : Fr} {a : Act}
def EffOk (P : Program) (ι : Map) (h : Heap) (w : World) (a : Act) (o : Oper) (v : Value) (h' : Heap) : Prop :=
 ∃ w' ι', ((∃ v', (execOp a.eval o).run P w = .ok (.value v') w' ∧ VR ι' v v') ∨ ((execOp a.eval o).run P w = .ok .skip w' ∧ v = undef)) ∧
  HR ι' h' w' ∧ Ext ι h w ι' h' w'
def upd (ι : Map) (n : Nat) (l : Loc) : Map := fun B => if B = n then some l else ι B
theorem HR.new (H : HR ι h w) : ι h.length = none := by
 cases e : ι h.length with
 | none => rfl
 | some l => exact absurd (H.dom _ _ e) (by omega)
theorem HR.subU (H : HR ι h w) (l : Loc) : Sub ι (upd ι h.length l) := by
 intro B l0 e
 have := H.dom _ _ e
 unfold upd
 rw [if_neg (by omega)]
 exact e
theorem upd_same (n : Nat) (l : Loc) : upd ι n l n = some l := if_pos rfl
theorem HR.lt (H : HR ι h w) {B : Nat} {b : Blk} (e : h[B]? = some (some b)) {l : Loc} (hl : ι B = some l) : l.b < w.heap.size := by
 obtain ⟨l', e1, _, _, _, _, c, _, _, hb, _⟩ := H.live B b e
 rw [hl] at e1
 cases e1
 exact (Array.getElem?_eq_some_iff.1 hb).1
def Fits (ι : Map) (w : World) (K : Kind) (cells : List Value) (l : Loc) : Prop :=
 l.n = cells.length ∧ l.base + l.n ≤ l.N ∧ (l.e = 0 → l.N = l.base + l.n) ∧ (match K with | .grown e => l.e = e | _ => l.e = 0) ∧
  ∃ c e f, w.heap[l.b]? = some (.cells c e f) ∧ l.N ≤ c.size ∧ (K ≠ .ro → f = (0, 0)) ∧ F2 (VC ι) cells ((c.toList.drop l.base).take l.n)
theorem get_push (h : Heap) (x : Option Blk) (B : Nat) : (h ++ [x])[B]? = if B = h.length then some x else h[B]? := by
 rw [List.getElem?_append]
 split
 ·rw [if_neg (by omega)]
 ·split
  ·simp [*]
  ·rw [List.getElem?_eq_none (by simp; omega), List.getElem?_eq_none (by omega)]
theorem HR.add (H : HR ι h w) {K : Kind} {cells : List Value} {l : Loc} (hold : ∀ B blk l0, h[B]? = some (some blk) → ι B = some l0 → l0.b ≠ l.b ∧ w'.heap[l0.b]? = w.heap[l0.b]?)
  (hf : Fits (upd ι h.length l) w' K cells l) : HR (upd ι h.length l) (h ++ [some ⟨K, cells⟩]) w' where
 dom := fun B l0 e => by
  unfold upd at e
  simp
  split at e
  ·omega
  ·have := H.dom _ _ e; omega
 live := fun B blk e => by
  rw [get_push] at e
  split at e
  ·rename_i hB
   subst hB
   cases e
   obtain ⟨f1, f2, f3, f4, f5⟩ := hf
   exact ⟨l, upd_same _ _, f1, f2, f3, f4, f5⟩
  ·rename_i hB
   obtain ⟨l0, e1, f1, f2, f3, f4, c, e2, f, hb, f5, f6, f7⟩ := H.live B blk e
   refine ⟨l0, H.subU l _ _ e1, f1, f2, f3, f4, c, e2, f, ?_, f5, f6, f7.mono fun _ _ h => h.mono (H.subU l)⟩
   rw [(hold B blk l0 e e1).2]
   exact hb
 apart := fun B1 B2 b1 b2 l1 l2 e1 e2 hne hr h1 h2 => by
  rw [get_push] at e1 e2
  unfold upd at h1 h2
  split at e1
  ·rename_i q1
   rw [if_pos q1] at h1
   cases h1
   rw [if_neg (by omega)] at e2 h2
   exact fun q => (hold B2 b2 l2 e2 h2).1 q.symm
  ·rename_i q1
   rw [if_neg q1] at h1
   split at e2
   ·rename_i q2
    rw [if_pos q2] at h2
    cases h2
    exact (hold B1 b1 l1 e1 h1).1
   ·rename_i q2
    rw [if_neg q2] at h2
    exact H.apart B1 B2 b1 b2 l1 l2 e1 e2 hne hr h1 h2
theorem HR.push (H : HR ι h w) {K : Kind} {cells : List Value} {l : Loc} (hold : ∀ b, b < w.heap.size → w'.heap[b]? = w.heap[b]?) (hfresh : w.heap.size ≤ l.b) (hf : Fits (upd ι h.length l) w' K cells l) :
  HR (upd ι h.length l) (h ++ [some ⟨K, cells⟩]) w' :=
 H.add (fun B blk l0 e1 e2 => by have := H.lt e1 e2; exact ⟨by omega, hold _ this⟩) hf
theorem get_kill (h : Heap) (B B' : Nat) (b : Blk) (e : (h.set B none)[B']? = some (some b)) : B' ≠ B ∧ h[B']? = some (some b) := by
 rw [List.getElem?_set] at e
 split at e
 ·split at e <;> cases e
 ·rename_i q; exact ⟨fun q' => q q'.symm, e⟩
theorem HR.kill (H : HR ι h w) (B : Nat) : HR ι (h.set B none) w :=
  ⟨fun B' l e => by simpa using H.dom B' l e, fun B' b e => H.live B' b (get_kill h B B' b e).2,
   fun B1 B2 b1 b2 l1 l2 e1 e2 => H.apart B1 B2 b1 b2 l1 l2 (get_kill h B B1 b1 e1).2 (get_kill h B B2 b2 e2).2⟩
theorem Ext.kill (ι : Map) (h : Heap) (w : World) (B : Nat) : Ext ι h w ι (h.set B none) w :=
 ⟨Sub.refl ι, Nat.le_refl _, fun _ _ _ => rfl, fun B' b l e h2 h3 => .inr ⟨B', b, l, (get_kill h B B' b e).2, h2, h3, rfl⟩, rfl, rfl, rfl, fun B' b l e h3 => .inr ⟨B', b, l, (get_kill h B B' b e).2, h3, rfl⟩⟩
theorem Ext.push (H : HR ι h w) {K : Kind} {cells : List Value} {l : Loc} (hold : ∀ b, b < w.heap.size → w'.heap[b]? = w.heap[b]?) (hsz : w.heap.size ≤ w'.heap.size) (hfresh : w.heap.size ≤ l.b)
  (e1 : w'.os = w.os) (e2 : w'.tape = w.tape) (e3 : w'.output = w.output) : Ext ι h w (upd ι h.length l) (h ++ [some ⟨K, cells⟩]) w' where
 sub := H.subU l
 size := hsz
 frame := fun b hb _ => hold b hb
 imgs := fun B blk l0 e hr hl => by
  rw [get_push] at e
  unfold upd at hl
  split at e
  ·rename_i q; rw [if_pos q] at hl; cases hl; exact .inl hfresh
  ·rename_i q; rw [if_neg q] at hl; exact .inr ⟨B, blk, l0, e, hr, hl, rfl⟩
 os := e1
 tape := e2
 output := e3
 imgR := fun B blk l0 e hl => by
  rw [get_push] at e
  unfold upd at hl
  split at e
  ·rename_i q; rw [if_pos q] at hl; cases hl; exact .inl hfresh
  ·rename_i q; rw [if_neg q] at hl; exact .inr ⟨B, blk, l0, e, hl, rfl⟩
theorem alloc_fits (w : World) (T : TypeId) {n : Nat} {cells cells' : List Value} {ι : Map} (hF : F2 (VC ι) cells cells') :
  Fits ι (w.alloc (.cells ⟨cells'⟩ T)) .fix cells ⟨w.heap.size, 0, cells.length, cells.length, 0⟩ := by
 refine ⟨rfl, by simp, by simp, rfl, ⟨cells'⟩, T, (0, 0), by show (w.heap.push _)[w.heap.size]? = _; simp, by simp [hF.length], fun _ => rfl, ?_⟩
 simp only [List.drop_zero]
 rw [List.take_of_length_le (by rw [hF.length]; exact Nat.le_refl _)]
 exact hF
theorem alloc_old (w : World) (o : Obj) : ∀ b, b < w.heap.size → (w.alloc o).heap[b]? = w.heap[b]? := by
 intro b hb
 show (w.heap.push o)[b]? = _
 rw [Array.getElem?_push, if_neg (Nat.ne_of_lt hb)]
theorem alloc_sim (H : HR ι h w) (T : TypeId) {cells cells' : List Value} (hF : F2 (VC ι) cells cells') :
    HR (upd ι h.length ⟨w.heap.size, 0, cells.length, cells.length, 0⟩) (h ++ [some ⟨.fix, cells⟩]) (w.alloc (.cells ⟨cells'⟩ T)) ∧
    Ext ι h w (upd ι h.length ⟨w.heap.size, 0, cells.length, cells.length, 0⟩) (h ++ [some ⟨.fix, cells⟩]) (w.alloc (.cells ⟨cells'⟩ T)) :=
  ⟨H.push (alloc_old w _) (Nat.le_refl _) (alloc_fits (n := 0) w T (hF.mono fun _ _ h => h.mono (H.subU _))),
   Ext.push H (alloc_old w _) (by show _ ≤ (w.heap.push _).size; simp) (Nat.le_refl _) rfl rfl rfl⟩
theorem vc_one {v v' : Value} (hv : VC ι v v') : v'.oneCell' = true := by
 cases hv with
 | v0 h => cases h <;> rfl
 | fn => rfl
theorem writeN_some {B o : Nat} {s : Option Nat} {vs : List Value} {h' : Heap} (e : writeN h ⟨B, o, s⟩ vs = some h') :
  s = none ∧ ∃ b, rd h B = some b ∧ b.kind ≠ .ro ∧ o + vs.length ≤ b.cells.length ∧ h' = h.set B (some ⟨b.kind, setR b.cells o vs⟩) := by
 cases s with
 | some s => simp [writeN] at e
 | none =>
  simp only [writeN] at e
  split at e
  ·rename_i b hb
   split at e
   ·cases e
   ·rename_i hk
    split at e
    ·rename_i hle; cases e; exact ⟨rfl, b, hb, hk, hle, rfl⟩
    ·cases e
  ·cases e
theorem store_sim {B o : Nat} {s : Option Nat} {vs vs' : List Value} {h' : Heap} (H : HR ι h w) (e : writeN h ⟨B, o, s⟩ vs = some h') {l : Loc} (hl : ι B = some l) (hF : F2 (VC ι) vs vs') :
  ∃ w', (storeCells ⟨l.b, l.base + o, none⟩ vs').run P w = .ok () w' ∧ HR ι h' w' ∧ Ext ι h w ι h' w' := by
 obtain ⟨-, blk, hblk, hk, hle, rfl⟩ := writeN_some e
 have hB := rd_some hblk
 obtain ⟨hn, hbN, hN, hke, c, T, f, hc, hsz, hf0, hFc⟩ := H.at hblk hl
 have hf := hf0 hk
 subst hf
 have hlen := hF.length
 have hst := run_storeCells_at P l.b (l.base + o) T vs' 0 c w hc (by omega) (fun v hv => by
  obtain ⟨i, hi⟩ := List.getElem?_of_mem hv
  have : i < vs.length := by rw [hlen]; exact (List.getElem?_eq_some_iff.1 hi).1
  obtain ⟨u, hu, hr⟩ := hF.get i vs[i] (List.getElem?_eq_getElem this)
  rw [hi] at hu
  cases hu
  exact vc_one hr)
 simp only [Nat.add_zero] at hst
 refine ⟨_, hst, ?_, ?_⟩
 ·have hBlt : B < h.length := (List.getElem?_eq_some_iff.1 hB).1
  refine ⟨fun B' l' e' => by simpa using H.dom B' l' e', fun B' blk' e' => ?_, fun B1 B2 b1 b2 l1 l2 e1 e2 hne hr h1 h2 => ?_⟩
  ·rw [List.getElem?_set] at e'
   split at e'
   ·rename_i q
    subst q
    cases e'
    refine ⟨l, hl, ?_, hbN, hN, hke, _, T, (0, 0), setRow_heap w l.b c _ T (0, 0) hc, ?_, fun _ => rfl, ?_⟩
    ·simp [setR]; omega
    ·simp; omega
    ·
     have e1 : ((c.toList.take (l.base + o) ++ vs' ++ c.toList.drop (l.base + o + vs'.length)).drop l.base).take l.n =
       setR ((c.toList.drop l.base).take l.n) o vs' := by
      unfold setR
      have hcl : l.base + l.n ≤ c.toList.length := by simp; omega
      have hol : o + vs'.length ≤ l.n := by omega
      generalize c.toList = cl at hcl
      apply List.ext_getElem?
      intro i
      simp only [List.getElem?_append, List.getElem?_take, List.getElem?_drop, List.length_take, List.length_append, List.length_drop]
      by_cases g1 : i < l.n
      ·by_cases g2 : i < o
       ·have m1 : l.base + i < min (l.base + o) cl.length := by omega
        have m2 : l.base + i < min (l.base + o) cl.length + vs'.length := by omega
        have m3 : i < min o (min l.n (cl.length - l.base)) := by omega
        have m4 : l.base + i < l.base + o := by omega
        simp only [g1, g2, m1, m2, m3, m4, if_true]
       ·by_cases g3 : i < o + vs'.length
        ·have m1 : ¬ l.base + i < min (l.base + o) cl.length := by omega
         have m2 : l.base + i < min (l.base + o) cl.length + vs'.length := by omega
         have m3 : ¬ i < min o (min l.n (cl.length - l.base)) := by omega
         have m4 : i - min o (min l.n (cl.length - l.base)) < vs'.length := by omega
         simp only [g1, m1, m2, m3, m4, if_true, if_false]
         congr 1; omega
        ·have m2 : ¬ l.base + i < min (l.base + o) cl.length + vs'.length := by omega
         have m3 : ¬ i < min o (min l.n (cl.length - l.base)) := by omega
         have m4 : ¬ i - min o (min l.n (cl.length - l.base)) < vs'.length := by omega
         have m5 : o + vs'.length + (i - min o (min l.n (cl.length - l.base)) - vs'.length) < l.n := by omega
         simp only [g1, m2, m3, m4, m5, if_true, if_false]
         congr 1; omega
      ·have m3 : ¬ i < min o (min l.n (cl.length - l.base)) := by omega
       have m4 : ¬ i - min o (min l.n (cl.length - l.base)) < vs'.length := by omega
       have m5 : ¬ o + vs'.length + (i - min o (min l.n (cl.length - l.base)) - vs'.length) < l.n := by omega
       simp only [g1, m3, m4, m5, if_false]
     rw [e1]
     unfold setR
     rw [hlen]
     exact (hFc.take o).append (hF.append (hFc.drop _))
   ·rename_i q
    obtain ⟨l0, g1, g2, g3, g4, g5, c0, T0, f0, g6, g7, g8, g9⟩ := H.live B' blk' e'
    refine ⟨l0, g1, g2, g3, g4, g5, c0, T0, f0, ?_, g7, g8, g9⟩
    have := H.apart B B' blk blk' l l0 hB e' q hk hl g1
    rw [setRow_other w l.b l0.b _ (fun h => this h.symm)]
    exact g6
  ·rw [List.getElem?_set] at e1 e2
   have r1 : ∃ b1', h[B1]? = some (some b1') ∧ b1'.kind = b1.kind := by
    split at e1
    ·rename_i q; subst q; cases e1; exact ⟨blk, hB, rfl⟩
    ·exact ⟨b1, e1, rfl⟩
   have r2 : ∃ b2', h[B2]? = some (some b2') := by
    split at e2
    ·rename_i q; subst q; exact ⟨blk, hB⟩
    ·exact ⟨b2, e2⟩
   obtain ⟨b1', q1, q2⟩ := r1
   obtain ⟨b2', q3⟩ := r2
   exact H.apart B1 B2 b1' b2' l1 l2 q1 q3 hne (by rw [q2]; exact hr) h1 h2
 ·refine ⟨Sub.refl ι, by simp, fun b hb hno => setRow_other w l.b b _ (fun q => hno B blk l hB hk hl q.symm), fun B' blk' l0 e' hr hl0 => ?_, rfl, rfl, rfl, fun B' blk' l0 e' hl0 => ?_⟩
  ·rw [List.getElem?_set] at e'
   have hBlt : B < h.length := (List.getElem?_eq_some_iff.1 hB).1
   split at e'
   ·rename_i q; subst q; cases e'; exact .inr ⟨B, blk, l0, hB, hk, hl0, rfl⟩
   ·exact .inr ⟨B', blk', l0, e', hr, hl0, rfl⟩
  ·rw [List.getElem?_set] at e'
   have hBlt : B < h.length := (List.getElem?_eq_some_iff.1 hB).1
   split at e'
   ·rename_i q; subst q; cases e'; exact .inr ⟨B, blk, l0, hB, hl0, rfl⟩
   ·exact .inr ⟨B', blk', l0, e', hl0, rfl⟩
end Go.Am
namespace Go.Am
set_option linter.all false
variable {P : Program} {ι : Map} {h : Heap} {w w' : World} {t : Fr} {a : Act}
theorem eff_value {o : Oper} {v v' : Value} {h' : Heap} {w' : World} {ι' : Map} (hr : (execOp a.eval o).run P w = .ok (.value v') w') (hv : VR ι' v v') (H : HR ι' h' w') (E : Ext ι h w ι' h' w') : EffOk P ι h w a o v h' :=
 ⟨w', ι', .inl ⟨v', hr, hv⟩, H, E⟩
theorem newRow_run (T : TypeId) (c : Array Value) : (newRow T c).run P w = .ok ⟨w.heap.size, 0, none⟩ (w.alloc (.cells c T)) := by
 simp [newRow]
theorem vr_newPtr {n : Nat} {l : Loc} (hb : l.base = 0) : VR (upd ι n l) (.pointer (some ⟨n, 0, none⟩)) (.pointer (some ⟨l.b, 0, none⟩)) := by
 have := VR.v0 (V0.ptr (ι := upd ι n l) (B := n) (o := 0) (upd_same n l))
 rw [hb] at this
 exact this
theorem box_sim {dst : Option Tmp} {T type : TypeId} {x : Operand} {pos : String} {after : Array Edge} {guard : Option (Nat × Bool)} (H : HR ι h w) (hv : VR ι (ev t x) (a.eval x)) (hn : noTup (ev t x) = true) :
  EffOk P ι h w a ⟨dst, .box T x, type, pos, after, guard⟩ (.pointer (some ⟨h.length, 0, none⟩)) (h ++ [some ⟨.fix, (ev t x).cells.toList⟩]) := by
 have hc := (hv.va_of hn).cells
 obtain ⟨g1, g2⟩ := alloc_sim H T hc
 refine eff_value (v' := .pointer (some ⟨w.heap.size, 0, none⟩)) ?_ (vr_newPtr rfl) g1 g2
 simp [execOp, Instr.box, newVar, newRow_run]
theorem allocT_sim {dst : Option Tmp} {T type : TypeId} {z : Array Value} {pos : String} {after : Array Edge} {guard : Option (Nat × Bool)} (H : HR ι h w) (hz : zeroT P T = some z) :
  EffOk P ι h w a ⟨dst, .alloc T, type, pos, after, guard⟩ (.pointer (some ⟨h.length, 0, none⟩)) (h ++ [some ⟨.fix, z.toList⟩]) := by
 obtain ⟨zv, z1, z2, z3⟩ := run_zero (w := w) hz
 obtain ⟨g1, g2⟩ := alloc_sim H T (okCells (ι := ι) z3)
 refine eff_value (v' := .pointer (some ⟨w.heap.size, 0, none⟩)) ?_ (vr_newPtr rfl) g1 g2
 simp [execOp, Instr.alloc, z1, newVar, z2, newRow_run]
theorem vr_newSl {n : Nat} {l : Loc} (len cap cap' : Nat) (hb : l.base = 0) (hc : cap' = cap ∨ (0 < l.e ∧ 0 + cap * l.e = l.n ∧ l.base + 0 + cap' * l.e = l.N ∧ cap ≤ cap')) :
  VR (upd ι n l) (.slice (some ⟨n, 0, none⟩) len cap) (.slice (some ⟨l.b, 0, none⟩) len cap') := by
 have := VR.v0 (V0.sl (ι := upd ι n l) (B := n) (o := 0) (len := len) (upd_same n l) hc)
 rw [hb] at this
 exact this
theorem stps_sim (hF : F2 (VR ι) t a.tmps.toList) (place : Nat → Option (Nat × Nat)) : ∀ (ps : List (Nat × Operand)) (l : List (Nat × Nat × Operand)), stps place ps = some l →
  (∀ p ∈ ps, (place p.1).isSome = true) ∧ (∀ p ∈ ps, VR ι (ev t p.2) (a.eval p.2)) ∧
  evps t l = (ps.map fun p => (p.1, ev t p.2, a.eval p.2)).filterMap fun p => (place p.1).map fun q => (q.1, q.2, p.2.1)
 | [], l, hl => by simp [stps] at hl; subst hl; simp [evps]
 | (i, x) :: ps, l, hl => by
  simp only [stps] at hl
  split at hl
  ·rename_i q l' hp hl'
   split at hl
   ·rename_i hx
    cases hl
    obtain ⟨g1, g2, g3⟩ := stps_sim hF place ps l' hl'
    refine ⟨?_, ?_, ?_⟩
    ·intro p hm; rcases List.mem_cons.1 hm with rfl | hm
     ·simp [hp]
     ·exact g1 p hm
    ·intro p hm; rcases List.mem_cons.1 hm with rfl | hm
     ·exact ev_sim hF hx
     ·exact g2 p hm
    ·simp only [evps, List.map_cons, List.filterMap_cons, hp, Option.map_some]
     rw [← g3]; rfl
   ·cases hl
  ·cases hl
theorem mkrow_sim {dst : Option Tmp} {T E type : TypeId} {len n : Nat} {z : Array Value} {ps : Array (Nat × Operand)} {l : List (Nat × Nat × Operand)} {r : List Value} {pos : String} {after : Array Edge} {guard : Option (Nat × Bool)}
  (H : HR ι h w) (hF : F2 (VR ι) t a.tmps.toList) (hu : P.underlying T = some (.slice E)) (hs : szT P E = some n) (hz : zeroT P E = some z) (hm : len * n ≤ 2 ^ 24) (hn : 0 < n) (hok : (rowOf z (len * n)).all okCell = true)
  (hl : stps (fun i => some (i * n, n)) ps.toList = some l) (hr : fillA (rowOf z (len * n)) (evps t l) = some r) :
  EffOk P ι h w a ⟨dst, .buildSlice T len ps, type, pos, after, guard⟩ (.slice (some ⟨h.length, 0, none⟩) len len) (h ++ [some ⟨.fix, r⟩]) := by
 obtain ⟨g1, g2, g3⟩ := stps_sim hF _ ps.toList l hl
 rw [g3] at hr
 obtain ⟨r', f1, f2⟩ := fill_sim (fun i => some (i * n, n)) _ (rowOf z (len * n)) (rowOf z (len * n)) r (okCells hok) (by
  intro p hp
  obtain ⟨q, hq, rfl⟩ := List.mem_map.1 hp
  exact g2 q hq) hr (by intro p hp; rfl)
 obtain ⟨q1, q2⟩ := alloc_sim H E f2
 refine eff_value (v' := .slice (some ⟨w.heap.size, 0, none⟩) len len) ?_ (vr_newSl len len len rfl (.inl rfl)) q1 q2
 have f1' : Instr.fill (fun i => some (i * n, n)) ((Array.range (len * n)).map (fun i => z[i % z.size]!)) (ps.map fun (i, x) => (i, a.eval x)).toList = some ⟨r'⟩ := by
  rw [← f1]
  have q : (Array.range (len * n)).map (fun i => z[i % z.size]!) = ⟨rowOf z (len * n)⟩ := by apply Array.ext'; simp [rowOf]
  rw [q]
  simp [Function.comp_def]
 obtain ⟨zv, z1, z2, z3⟩ := run_zero (w := w) hz
 have hbig : ¬ (2 ^ 24 < len * n) := by omega
 simp only [execOp, Instr.buildSlice, Sem.run_bind, run_und hu, Result.andThen_ok, run_sz hs]
 rw [if_neg (by omega)]
 by_cases h0 : len * n = 0
 ·rw [if_pos h0]
  have hz0 : (Array.range (len * n)).map (fun i => z[i % z.size]!) = #[] := by rw [h0]; simp
  rw [hz0] at f1'
  simp only [Sem.run_bind, Sem.run_pure, Result.andThen_ok]
  have hz1 : (Array.range (len * n)).map (fun i => (#[] : Array Value)[i % (#[] : Array Value).size]!) = #[] := by rw [h0]; simp
  rw [hz1, f1']
  simp [newRow_run]
 ·rw [if_neg h0]
  simp only [Sem.run_bind, z1, Result.andThen_ok, Sem.run_pure, z2, f1']
  simp [newRow_run]
theorem rowOf_flat (z : Array Value) (hz : 0 < z.size) (c : Nat) : rowOf z (c * z.size) = (List.replicate c z.toList).flatten := by
 unfold rowOf
 induction c with
 | zero => simp
 | succ c ih =>
  have h1 : (Array.range ((c + 1) * z.size)).toList = (Array.range (c * z.size)).toList ++ (List.range z.size).map (c * z.size + ·) := by
   simp [Nat.succ_mul, List.range_add]
  rw [Array.toList_map, h1, List.map_append]
  rw [Array.toList_map] at ih
  rw [ih, List.replicate_succ', List.flatten_append]
  congr 1
  simp only [List.flatten_cons, List.flatten_nil, List.append_nil]
  apply List.ext_getElem?
  intro i
  by_cases hi : i < z.size
  ·simp [hi, Nat.mod_eq_of_lt hi]
  ·simp [hi]
end Go.Am
namespace Go.Am
set_option linter.all false
variable {P : Program} {ι : Map} {h : Heap} {w w' : World} {t : Fr} {a : Act}
theorem zeroT_info {E : TypeId} {z : Array Value} {i : TypeInfo} (hz : zeroT P E = some z) (hi : P.info? E = some i) : ∃ zv, i.zero = some zv ∧ zv.cells = z ∧ z.toList.all okCell = true := by
 unfold zeroT at hz
 rw [hi] at hz
 dsimp only at hz
 split at hz
 ·rename_i v hv
  split at hz
  ·rename_i hc; cases hz; exact ⟨v, hv, rfl, hc⟩
  ·cases hz
 ·cases hz
theorem src_sim {esz n : Nat} {x x' : Value} {new : List Value} (H : HR ι h w) (hx : VR ι x x') (e : srcA h esz x = some (n, new)) :
  ∃ xa c' new', x' = .slice xa n c' ∧ F2 (VC ι) new new' ∧ new'.length = n * esz ∧ (n = 0 → new' = []) ∧ (n ≠ 0 → ∃ b o, xa = some ⟨b, o, none⟩ ∧ ∀ j v, new'[j]? = some v → w.cell? ⟨b, o + j, none⟩ = some v) := by
 unfold srcA at e
 split at e
 ·rename_i m c
  split at e
  ·rename_i hm
   cases e
   subst hm
   cases hx.nilSl_inv
   exact ⟨none, _, [], rfl, .nil, by simp, fun _ => rfl, fun q => absurd rfl q⟩
  ·cases e
 ·rename_i p m c
  obtain ⟨B, o, s⟩ := p
  split at e
  ·rename_i l hl
   cases e
   obtain ⟨rfl, lo, hlo, hv⟩ := hx.sl_inv
   rcases hv with ⟨c', rfl, -⟩ | ⟨rfl, -, a', rfl⟩
   ·obtain ⟨l', f1, f2, f3⟩ := H.cells hl hlo
    exact ⟨_, c', l', rfl, f1, f2, fun q => List.length_eq_zero_iff.1 (by rw [f2, q]; simp), fun _ => ⟨_, _, rfl, f3⟩⟩
   ·obtain ⟨_, b0, _, hle, rfl⟩ := readN_some hl
    exact ⟨_, 0, [], rfl, by simp; exact .nil, by simp, fun _ => rfl, fun q => absurd rfl q⟩
  ·cases e
 ·cases e
section runs
variable {T E ty : TypeId} {i : TypeInfo}
theorem run_append_zero (hu : P.underlying T = some (.slice E)) (hi : P.info? E = some i) (base xa : Option Addr) (len cap c : Nat) (hle : len ≤ cap) (hb : base = none ∨ ∃ p, base = some p) :
  (Builtin.append_ #[T, T] ty #[.slice base len cap, .slice xa 0 c]).run P w = .ok (.slice base len cap) w := by
 have hf : (Builtin.firstCells i.size 0 (.slice xa 0 c)).run P w = .ok #[] w := by
  cases xa <;> simp [Builtin.firstCells, loadCells, loadCellsFrom]
 cases base <;> simp [Builtin.append_, run_underlying hu, sizeOf, typeInfo, hi, Builtin.lenOf, hle, hf, storeCells]
theorem run_append_place (hu : P.underlying T = some (.slice E)) (hi : P.info? E = some i) (b o sLen sCap : Nat) (ab ao m c : Nat) (news : List Value) (hl : news.length = m * i.size)
  (hnews : ∀ j u, news[j]? = some u → w.cell? ⟨ab, ao + j, none⟩ = some u) (hroom : sLen + m ≤ sCap) (hst : (storeCells ⟨b, o + sLen * i.size, none⟩ news).run P w = .ok () w') :
  (Builtin.append_ #[T, T] ty #[.slice (some ⟨b, o, none⟩) sLen sCap, .slice (some ⟨ab, ao, none⟩) m c]).run P w = .ok (.slice (some ⟨b, o, none⟩) (sLen + m) sCap) w' := by
 have hf := run_firstCells_some (P := P) w i.size m ⟨ab, ao, none⟩ m c news hl (fun j v hv => by rw [add_plain]; exact hnews j v hv)
 simp [Builtin.append_, run_underlying hu, sizeOf, typeInfo, hi, Builtin.lenOf, hroom, hf, add_plain, hst]
end runs
theorem grown_size (w : World) (need old : Nat) (e : TypeId) (h : need ≤ maxLen) : need ≤ grownCap w need old e := by
 simp only [grownCap, Question.cut]
 omega
theorem append_sim {T E ty : TypeId} {i : TypeInfo} {z : Array Value} {s x s' x' v : Value} {h' : Heap} (H : HR ι h w) (hu : P.underlying T = some (.slice E)) (hi : P.info? E = some i) (hz : zeroT P E = some z) (hzs : z.size = i.size)
  (hs : VR ι s s') (hx : VR ι x x') (e : appA i.size i.bytes h s x = some (v, h')) :
  ∃ w' ι' v', (Builtin.append_ #[T, T] ty #[s', x']).run P w = .ok v' w' ∧ VR ι' v v' ∧ HR ι' h' w' ∧ Ext ι h w ι' h' w' := by
 obtain ⟨zv, z1, z2, z3⟩ := zeroT_info hz hi
 have hzl : zv.cells.size = i.size := by rw [z2, hzs]
 cases s <;> simp only [appA] at e
 case slice base len cap =>
  split at e
  ·rename_i n new hsrc
   obtain ⟨xa, c', new', rfl, hFn, hnl, hn0, hn1⟩ := src_sim H hx hsrc
   split at e
   ·
    rename_i hn
    subst hn
    split at e
    ·rename_i hle
     cases e
     cases base with
     | none =>
      cases hs.nilSl_inv
      exact ⟨w, ι, _, run_append_zero hu hi none xa len cap c' hle (.inl rfl), .v0 (.nilSl _ _), H, Ext.refl ι h w⟩
     | some p =>
      obtain ⟨B, o, s0⟩ := p
      obtain ⟨rfl, lo, hlo, hv⟩ := hs.sl_inv
      rcases hv with ⟨cap', rfl, hc⟩ | ⟨rfl, rfl, a', rfl⟩
      ·have hcc : cap ≤ cap' := by rcases hc with rfl | ⟨_, _, _, h⟩ <;> omega
       exact ⟨w, ι, _, run_append_zero hu hi _ xa len cap' c' (by omega) (.inr ⟨_, rfl⟩), hs, H, Ext.refl ι h w⟩
      ·exact ⟨w, ι, _, run_append_zero hu hi _ xa 0 0 c' (Nat.le_refl _) (.inr ⟨_, rfl⟩), hs, H, Ext.refl ι h w⟩
    ·cases e
   ·rename_i hn
    obtain ⟨xb, xo, rfl, hnew⟩ := hn1 hn
    have hFl := hFn.length
    split at e
    ·
     split at e
     ·rename_i hc
      obtain ⟨rfl, rfl, he, hby, hnb⟩ := hc
      cases e
      cases hs.nilSl_inv
      have hrun := run_append_nil (P := P) w T ty E i zv hu hi z1 ⟨xb, xo, none⟩ n c' new' hnl (fun j v hv => by rw [add_plain]; exact hnew j v hv) (by omega) (by omega) (by omega)
      have hg : n ≤ grownCap w n 0 E := grown_size w n 0 E (by unfold maxLen; omega)
      generalize hgc : grownCap w n 0 E = gc at hrun hg
      have hsz : (new'.toArray ++ Builtin.zeroCells zv.cells (gc - n)).size = gc * i.size := by
       rw [Array.size_append, size_zeroCells, hzl]
       simp only [List.size_toArray, hnl, ← Nat.add_mul]
       congr 1; omega
      have hl : n * i.size ≤ gc * i.size := Nat.mul_le_mul_right _ hg
      have hfit : Fits (upd ι h.length ⟨w.heap.size, 0, new.length, gc * i.size, i.size⟩) (w.drew.alloc (.cells (new'.toArray ++ Builtin.zeroCells zv.cells (gc - n)) E)) (.grown i.size) new ⟨w.heap.size, 0, new.length, gc * i.size, i.size⟩ := by
       refine ⟨rfl, by simp only; omega, fun q => by simp only at q; omega, rfl, _, E, (0, 0), by show (w.heap.push _)[w.heap.size]? = _; exact Array.getElem?_push_size, by rw [hsz]; exact Nat.le_refl _, fun _ => rfl, ?_⟩
       simp only [Array.toList_append, List.drop_zero]
       rw [hFl, List.take_left]
       exact hFn.mono fun _ _ q => q.mono (H.subU _)
      refine ⟨_, _, _, hrun, vr_newSl n n gc rfl (.inr ⟨he, by simp only; omega, by simp only; omega, hg⟩), H.push (alloc_old w _) (Nat.le_refl _) hfit, Ext.push H (alloc_old w _) (by show _ ≤ (w.heap.push _).size; simp) (Nat.le_refl _) rfl rfl rfl⟩
     ·cases e
    ·rename_i p
     obtain ⟨B, o, s0⟩ := p
     obtain ⟨rfl, lo, hlo, hv⟩ := hs.sl_inv
     dsimp only at e
     split at e
     ·
      rename_i hroom
      split at e
      ·rename_i hw hwr
       cases e
       rcases hv with ⟨cap', rfl, hc⟩ | ⟨rfl, rfl, _⟩
       ·have hcc : cap ≤ cap' := by rcases hc with rfl | ⟨_, _, _, h⟩ <;> omega
        obtain ⟨w1, hst, g1, g2⟩ := store_sim (P := P) H hwr hlo hFn
        refine ⟨w1, ι, _, run_append_place hu hi lo.b (lo.base + o) len cap' xb xo n c' new' hnl hnew (by omega) (by rw [Nat.add_assoc]; exact hst), .v0 (.sl hlo hc), g1, g2⟩
       ·omega
      ·cases e
     ·rename_i hroom
      split at e
      ·rename_i hc0
       obtain ⟨he, hby, hnb⟩ := hc0
       split at e
       ·rename_i old q hold hend
        cases e
        obtain ⟨blk, hblk, hkind⟩ := isEnd_some hend
        obtain ⟨hbn, hbN, hbe, hbk, cc, Tc, fc, hcc0, hcsz, hf0, hFc⟩ := H.at hblk hlo
        have growth : ∀ (a' : Addr) (cap' : Nat) (old' : List Value), F2 (VC ι) old old' → old'.length = len * i.size → (∀ j v, old'[j]? = some v → w.cell? (a'.add j) = some v) → cap' < len + n →
          ∃ w' ι' v', (Builtin.append_ #[T, T] ty #[.slice (some a') len cap', .slice (some ⟨xb, xo, none⟩) n c']).run P w = .ok v' w' ∧
           VR ι' (.slice (some ⟨h.length, 0, none⟩) (len + n) (len + n)) v' ∧ HR ι' ((if q = true then h.set B none else h) ++ [some ⟨.grown i.size, old ++ new⟩]) w' ∧
           Ext ι h w ι' ((if q = true then h.set B none else h) ++ [some ⟨.grown i.size, old ++ new⟩]) w' := by
         intro a' cap' old' hFo hol hoc hcap
         have hrun := run_append_grow (P := P) w T ty E i zv hu hi z1 a' len cap' old' hol hoc ⟨xb, xo, none⟩ n c' new' hnl
          (fun j v hv => by rw [add_plain]; exact hnew j v hv) hcap (by omega) (growslice_fits hcap (by omega))
         have hg : len + n ≤ grownCap w (len + n) cap' E := grown_size w _ _ E (by unfold maxLen; omega)
         generalize hgc : grownCap w (len + n) cap' E = gc at hrun hg
         have hoF := hFo.length
         have hsz : (old'.toArray ++ new'.toArray ++ Builtin.zeroCells zv.cells (gc - (len + n))).size = gc * i.size := by
          rw [Array.size_append, Array.size_append, size_zeroCells, hzl]
          simp only [List.size_toArray, hnl, hol, ← Nat.add_mul]
          congr 1; omega
         have hl : (len + n) * i.size ≤ gc * i.size := Nat.mul_le_mul_right _ hg
         have hnn : (old ++ new).length = (len + n) * i.size := by rw [List.length_append, hoF, hFl, hol, hnl, ← Nat.add_mul]
         have step : ∀ h1 : Heap, h1.length = h.length → HR ι h1 w → Ext ι h w ι h1 w → ∃ w' ι' v', (Builtin.append_ #[T, T] ty #[.slice (some a') len cap', .slice (some ⟨xb, xo, none⟩) n c']).run P w = .ok v' w' ∧
           VR ι' (.slice (some ⟨h.length, 0, none⟩) (len + n) (len + n)) v' ∧ HR ι' (h1 ++ [some ⟨.grown i.size, old ++ new⟩]) w' ∧ Ext ι h w ι' (h1 ++ [some ⟨.grown i.size, old ++ new⟩]) w' := by
          intro h1 hlen H1 E1
          have hfit : Fits (upd ι h1.length ⟨w.heap.size, 0, (old ++ new).length, gc * i.size, i.size⟩) (w.drew.alloc (.cells (old'.toArray ++ new'.toArray ++ Builtin.zeroCells zv.cells (gc - (len + n))) E)) (.grown i.size) (old ++ new)
            ⟨w.heap.size, 0, (old ++ new).length, gc * i.size, i.size⟩ := by
           refine ⟨rfl, by simp only; omega, fun q => by simp only at q; omega, rfl, _, E, (0, 0), by show (w.heap.push _)[w.heap.size]? = _; exact Array.getElem?_push_size, by rw [hsz]; exact Nat.le_refl _, fun _ => rfl, ?_⟩
           simp only [Array.toList_append, List.drop_zero]
           have hll : (old ++ new).length = (old' ++ new').length := by simp [hoF, hFl]
           rw [hll, List.take_left]
           exact (hFo.append hFn).mono fun _ _ q => q.mono (H1.subU _)
          refine ⟨_, _, _, hrun, ?_, H1.push (alloc_old w _) (Nat.le_refl _) hfit, E1.trans (Ext.push H1 (alloc_old w _) (by show _ ≤ (w.heap.push _).size; simp) (Nat.le_refl _) rfl rfl rfl)⟩
          rw [← hlen]
          exact vr_newSl (len + n) (len + n) gc rfl (.inr ⟨he, by simp only; omega, by simp only; omega, hg⟩)
         cases q
         ·exact step h rfl H (Ext.refl ι h w)
         ·exact step (h.set B none) (by simp) (H.kill B) (Ext.kill ι h w B)
        rcases hv with ⟨cap', rfl, hc⟩ | ⟨rfl, rfl, a', rfl⟩
        ·obtain ⟨old', f1, f2, f3⟩ := H.cells hold hlo
         by_cases hg : cap' < len + n
         ·exact growth ⟨lo.b, lo.base + o, none⟩ cap' old' f1 f2 (fun j v hv => by rw [add_plain]; exact f3 j v hv) hg
         ·
          rcases hc with h0 | ⟨h0, q1, q2, q3⟩
          ·omega
          ·have hkg : ∃ e0, blk.kind = .grown e0 ∧ e0 = i.size ∧ q = (o + cap * i.size == blk.cells.length) := by
            rcases hkind with ⟨e0, k1, k2, k3, k4⟩ | ⟨k1, _⟩
            ·exact ⟨e0, k1, k2, k4⟩
            ·cases hkk : blk.kind with
             | grown e1 => exact absurd hkk (k1 e1)
             | ro => rw [hkk] at hbk; simp only at hbk; omega
             | fix => rw [hkk] at hbk; simp only at hbk; omega
           obtain ⟨e0, hkk, rfl, hqq⟩ := hkg
           rw [hkk] at hbk hf0
           simp only at hbk
           have hq : q = true := by rw [hqq]; simp; rw [hbk] at q1; omega
           subst hq
           have hfc := hf0 (by simp)
           subst hfc
           rw [hbk] at q1 q2
           have hm1 : (len + n) * i.size ≤ cap' * i.size := Nat.mul_le_mul_right _ (by omega)
           have hm2 : (len + n) * i.size = len * i.size + n * i.size := Nat.add_mul _ _ _
           have hst := run_storeCells_at P lo.b (lo.base + o + len * i.size) Tc new' 0 cc w hcc0 (by omega) (fun v hv => by
            obtain ⟨j, hj⟩ := List.getElem?_of_mem hv
            have : j < new.length := by rw [hFl]; exact (List.getElem?_eq_some_iff.1 hj).1
            obtain ⟨u, hu', hr⟩ := hFn.get j new[j] (List.getElem?_eq_getElem this)
            rw [hj] at hu'
            cases hu'
            exact vc_one hr)
           simp only [Nat.add_zero] at hst
           generalize hrow : (cc.toList.take (lo.base + o + len * i.size) ++ new' ++ cc.toList.drop (lo.base + o + len * i.size + new'.length)).toArray = row at hst
           have hrowl : row.toList = cc.toList.take (lo.base + o + len * i.size) ++ new' ++ cc.toList.drop (lo.base + o + len * i.size + new'.length) := by rw [← hrow]
           have hB := rd_some hblk
           have hmut : blk.kind ≠ .ro := by rw [hkk]; simp
           have hother : ∀ B' blk' l0, (h.set B none)[B']? = some (some blk') → ι B' = some l0 → l0.b ≠ lo.b ∧ (w.setRow lo.b row).heap[l0.b]? = w.heap[l0.b]? := by
            intro B' blk' l0 e1 e2
            obtain ⟨g1, g2⟩ := get_kill h B B' blk' e1
            have := H.apart B B' blk blk' lo l0 hB g2 (fun q => g1 q.symm) hmut hlo e2
            exact ⟨fun q => this q.symm, setRow_other w lo.b l0.b _ (fun q => this q.symm)⟩
           have hnn : (old ++ new).length = (len + n) * i.size := by rw [List.length_append, f1.length, hFl, f2, hnl, ← Nat.add_mul]
           have hlist : (row.toList.drop (lo.base + o)).take ((len + n) * i.size) = old' ++ new' := by
            rw [hrowl]
            have hold' : ∀ j, j < len * i.size → cc.toList[lo.base + o + j]? = old'[j]? := by
             intro j hj
             have hj' : j < old'.length := by rw [f2]; exact hj
             have := f3 j old'[j] (List.getElem?_eq_getElem hj')
             rw [cell_of hcc0] at this
             rw [List.getElem?_eq_getElem hj', ← this, Array.getElem?_toList]
            have hcl : lo.base + o + len * i.size + n * i.size ≤ cc.toList.length := by simp; omega
            generalize cc.toList = cl at hold' hcl
            apply List.ext_getElem?
            intro j
            simp only [List.getElem?_append, List.getElem?_take, List.getElem?_drop, List.length_take, List.length_append, f2, hnl]
            by_cases g1 : j < (len + n) * i.size
            ·by_cases g2 : j < len * i.size
             ·have m1 : lo.base + o + j < min (lo.base + o + len * i.size) cl.length := by omega
              have m2 : lo.base + o + j < min (lo.base + o + len * i.size) cl.length + n * i.size := by omega
              have m3 : lo.base + o + j < lo.base + o + len * i.size := by omega
              simp only [g1, g2, m1, m2, m3, if_true]
              exact hold' j g2
             ·have m1 : ¬ lo.base + o + j < min (lo.base + o + len * i.size) cl.length := by omega
              have m2 : lo.base + o + j < min (lo.base + o + len * i.size) cl.length + n * i.size := by omega
              simp only [g1, g2, m1, m2, if_true, if_false]
              congr 1; omega
            ·have g2 : ¬ j < len * i.size := by omega
             simp only [g1, g2, if_false]
             rw [List.getElem?_eq_none]
             rw [hnl]; omega
           have H1 := H.kill B
           have hlen1 : (h.set B none).length = h.length := by simp
           have hfit : Fits (upd ι (h.set B none).length ⟨lo.b, lo.base + o, (old ++ new).length, lo.N, i.size⟩) (w.setRow lo.b row) (.grown i.size) (old ++ new) ⟨lo.b, lo.base + o, (old ++ new).length, lo.N, i.size⟩ := by
            refine ⟨rfl, by simp only; omega, fun q => by simp only at q; omega, rfl, row, Tc, (0, 0), setRow_heap w lo.b cc row Tc (0, 0) hcc0, ?_, fun _ => rfl, ?_⟩
            ·show lo.N ≤ row.size
             rw [← Array.length_toList, hrowl]
             simp; omega
            ·simp only
             rw [hnn, hlist]
             exact (f1.append hFn).mono fun _ _ q => q.mono (H1.subU _)
           show ∃ w' ι' v', _ ∧ VR ι' _ v' ∧ HR ι' (h.set B none ++ [some ⟨.grown i.size, old ++ new⟩]) w' ∧ Ext ι h w ι' (h.set B none ++ [some ⟨.grown i.size, old ++ new⟩]) w'
           refine ⟨_, upd ι (h.set B none).length ⟨lo.b, lo.base + o, (old ++ new).length, lo.N, i.size⟩, _, run_append_place (w' := w.setRow lo.b row) hu hi lo.b (lo.base + o) len cap' xb xo n c' new' hnl hnew (by omega) hst, ?_, H1.add hother hfit, ?_⟩
           ·rw [← hlen1]
            exact .v0 (.sl (o := 0) (l := ⟨lo.b, lo.base + o, (old ++ new).length, lo.N, i.size⟩) (upd_same _ _) (.inr ⟨he, by show 0 + (len + n) * i.size = (old ++ new).length; omega, by show lo.base + o + 0 + cap' * i.size = lo.N; omega, by omega⟩))
           ·refine ⟨H1.subU _, by simp, fun b hb hno => setRow_other w lo.b b _ (fun q => hno B blk lo hB hmut hlo q.symm), fun B' blk' l0 e' hr hl0 => ?_, rfl, rfl, rfl, fun B' blk' l0 e' hl0 => ?_⟩
            ·rw [get_push] at e'
             unfold upd at hl0
             split at e'
             ·rename_i qq; rw [if_pos qq] at hl0; cases hl0; exact .inr ⟨B, blk, lo, hB, hmut, hlo, rfl⟩
             ·rename_i qq; rw [if_neg qq] at hl0; exact .inr ⟨B', blk', l0, (get_kill h B B' blk' e').2, hr, hl0, rfl⟩
            ·rw [get_push] at e'
             unfold upd at hl0
             split at e'
             ·rename_i qq; rw [if_pos qq] at hl0; cases hl0; exact .inr ⟨B, blk, lo, hB, hlo, rfl⟩
             ·rename_i qq; rw [if_neg qq] at hl0; exact .inr ⟨B', blk', l0, (get_kill h B B' blk' e').2, hl0, rfl⟩
        ·obtain ⟨_, b0, _, hle, rfl⟩ := readN_some hold
         refine growth a' 0 [] (by simp; exact .nil) (by simp) (by simp) (by omega)
       ·cases e
      ·cases e
  ·cases e
 all_goals cases e
end Go.Am
namespace Go.Am
set_option linter.all false
variable {P : Program} {ι : Map} {h : Heap} {w w' : World} {t : Fr} {a : Act}
theorem first_sim {n m nb cb : Nat} {p : Addr} {l : List Value} {s' : Value} (H : HR ι h w) (hs : VR ι (.slice (some p) nb cb) s') (hl : readN h p (m * n) = some l) (hm : m ≤ nb) :
  ∃ p' cb' l', s' = .slice (some p') nb cb' ∧ F2 (VC ι) l l' ∧ l'.length = m * n ∧ (Builtin.firstCells n m s').run P w = .ok l'.toArray w := by
 obtain ⟨B, o, s0⟩ := p
 obtain ⟨rfl, lb, hlb, hv⟩ := hs.sl_inv
 rcases hv with ⟨cb', rfl, -⟩ | ⟨rfl, rfl, a', rfl⟩
 ·obtain ⟨l', f1, f2, f3⟩ := H.cells hl hlb
  exact ⟨_, cb', l', rfl, f1, f2, run_firstCells_some (P := P) w n m _ nb cb' l' f2 (fun j v hv => by rw [add_plain]; exact f3 j v hv)⟩
 ·have h0 : m = 0 := by omega
  subst h0
  obtain ⟨_, b0, _, hle, rfl⟩ := readN_some hl
  exact ⟨_, 0, [], rfl, by simp; exact .nil, by simp, by simp [Builtin.firstCells, loadCells, loadCellsFrom]⟩
theorem copy_sim {T E ty : TypeId} {n : Nat} {d s d' s' v : Value} {h' : Heap} (H : HR ι h w) (hu : P.underlying T = some (.slice E)) (hn : szT P E = some n)
  (hd : VR ι d d') (hs : VR ι s s') (e : copyA n h d s = some (v, h')) :
  ∃ w', (Builtin.copy_ #[T, T] ty #[d', s']).run P w = .ok v w' ∧ VR ι v v ∧ HR ι h' w' ∧ Ext ι h w ι h' w' := by
 unfold copyA at e
 split at e
 ·rename_i pa na ca pb nb cb
  split at e
  ·rename_i l hl
   split at e
   ·rename_i h1 hw
    cases e
    have hm : Nat.min nb na ≤ nb := Nat.min_le_left _ _
    obtain ⟨p', cb', l', rfl, f1, f2, f3⟩ := first_sim (P := P) H hs hl hm
    obtain ⟨B, o, s0⟩ := pa
    obtain ⟨rfl, la, hla, hva⟩ := hd.sl_inv
    obtain ⟨w1, g0, g1, g2⟩ := store_sim (P := P) H hw hla f1
    rcases hva with ⟨ca', rfl, -⟩ | ⟨rfl, rfl, ba, oa, rfl⟩
    ·refine ⟨w1, ?_, .int ι _ _, g1, g2⟩
     simp only [Builtin.copy_, List.getElem?_toArray, List.getElem?_cons_zero, List.getElem?_cons_succ, Sem.run_bind, run_underlying hu, Result.andThen_ok, Builtin.lenOf, Sem.run_pure, run_sz hn, f3, g0, goInt]
    ·have h0 : Nat.min nb 0 = 0 := Nat.min_zero nb
     rw [h0] at f2 f3
     have hl0 : l' = [] := List.length_eq_zero_iff.1 (by rw [f2]; simp)
     subst hl0
     have hw1 : w1 = w := by
      simp [storeCells] at g0
      exact g0.symm
     subst hw1
     refine ⟨w1, ?_, .int ι _ _, g1, g2⟩
     simp only [Builtin.copy_, List.getElem?_toArray, List.getElem?_cons_zero, List.getElem?_cons_succ, Sem.run_bind, run_underlying hu, Result.andThen_ok, Builtin.lenOf, Sem.run_pure, run_sz hn, h0, f3, goInt, storeCells]
   ·cases e
  ·cases e
 ·rename_i pa na ca m cb
  split at e
  ·rename_i hm
   cases e
   subst hm
   cases hs.nilSl_inv
   obtain ⟨B, o, s0⟩ := pa
   obtain ⟨rfl, la, hla, hva⟩ := hd.sl_inv
   have key : ∀ (p : Addr) (na c : Nat), (Builtin.copy_ #[T, T] ty #[.slice (some p) na c, .slice none 0 cb]).run P w = .ok (.int .i64 0) w := by
    intro p na c
    have h0 : Nat.min 0 na = 0 := Nat.zero_min na
    simp [Builtin.copy_, run_underlying hu, Builtin.lenOf, run_sz hn, h0, Builtin.firstCells, storeCells, goInt]
   rcases hva with ⟨ca', rfl, -⟩ | ⟨rfl, rfl, ba, oa, rfl⟩
   ·exact ⟨w, key _ _ _, .int ι _ _, H, Ext.refl ι _ w⟩
   ·exact ⟨w, key _ _ _, .int ι _ _, H, Ext.refl ι _ w⟩
  ·cases e
 ·cases e
theorem mkslice_sim {T E : TypeId} {i : TypeInfo} {z : Array Value} {l c : Int} (H : HR ι h w) (hu : P.underlying T = some (.slice E)) (hi : P.info? E = some i) (hz : zeroT P E = some z) (hzs : z.size = i.size) (h0 : 0 < i.size)
  (hl : 0 ≤ l) (hlc : l ≤ c) (hcb : c * i.bytes ≤ 1099511627776) (hc : c ≤ 1099511627776) :
  ∃ w' ι' v', (Instr.makeSlice T (.int .i64 l) (.int .i64 c)).run P w = .ok v' w' ∧ VR ι' (.slice (some ⟨h.length, 0, none⟩) l.toNat c.toNat) v' ∧
   HR ι' (h ++ [some ⟨.fix, (List.replicate c.toNat z.toList).flatten⟩]) w' ∧ Ext ι h w ι' (h ++ [some ⟨.fix, (List.replicate c.toNat z.toList).flatten⟩]) w' := by
 obtain ⟨zv, z1, z2, z3⟩ := zeroT_info hz hi
 have hok : (List.replicate c.toNat z.toList).flatten.all okCell = true := by
  rw [List.all_eq_true]
  intro v hv
  obtain ⟨q, hq, hvq⟩ := List.mem_flatten.1 hv
  have := (List.mem_replicate.1 hq).2
  subst this
  exact List.all_eq_true.1 z3 v hvq
 obtain ⟨g1, g2⟩ := alloc_sim H E (okCells (ι := ι) hok)
 refine ⟨_, _, _, ?_, vr_newSl l.toNat c.toNat c.toNat rfl (.inl rfl), g1, g2⟩
 have w1 : IntKind.i64.wrap l = l := by simp [IntKind.wrap, IntKind.bits, IntKind.signed]; omega
 have w2 : IntKind.i64.wrap c = c := by simp [IntKind.wrap, IntKind.bits, IntKind.signed]; omega
 have hmul : (i.bytes : Int) * c = c * i.bytes := Int.mul_comm _ _
 have t1 : (decide (c < 0) || decide ((i.bytes : Int) * c > 2 ^ 48)) = false := by simp; omega
 have t2 : (decide (l < 0)) = false := by simp; omega
 have t3 : (decide (l > c)) = false := by simp; omega
 have hroom : ∀ n, (askRoom n).run P w = .ok () w := by intro n; unfold askRoom; split <;> simp
 have hrow : ∀ n : Nat, ((Array.range (n * i.size)).map (fun j => zv.cells[j % zv.cells.size]!)) = ⟨(List.replicate n z.toList).flatten⟩ := by
  intro n
  apply Array.ext'
  rw [z2, ← rowOf_flat z (by omega) n, hzs]
  unfold rowOf
  rw [hzs]
 simp only [Instr.makeSlice, Sem.run_bind, run_underlying hu, Result.andThen_ok, asInt, asIntOf, Sem.run_pure, run_ti hi, w1, w2, t1, t2, t3, Bool.or_false, Bool.false_eq_true, if_false, hroom, run_sz (show szT P E = some i.size by simp [szT, hi]),
  GT.gt]
 have hzr : (zeroValue E).run P w = .ok zv w := by simp [zeroValue, run_ti hi, z1]
 split
 ·rename_i h1
  have h2 : (List.replicate c.toNat z.toList).flatten = [] := by
   rw [← rowOf_flat z (by omega), hzs, h1]; simp [rowOf]
  simp only [Sem.run_bind, Sem.run_pure, Result.andThen_ok, h1, h2]
  have h3 : ∀ f : Nat → Value, (Array.range 0).map f = #[] := fun f => by simp
  simp only [h3, newRow_run, Result.andThen_ok]
 ·simp only [Sem.run_bind, Sem.run_pure, Result.andThen_ok, hzr, hrow, newRow_run]
def callable (P : Program) (f : FuncId) : Bool :=
 match P.funcs[f]? with
 | some fn => !(fn.name == "runtime.NumGoroutine") && fn.body.isSome
 | none => false
theorem callFunc_run {f : FuncId} (hc : callable P f = true) (args : Array Value) : (callFunc f args).run P w = .ok (.enter f args) w := by
 unfold callable at hc
 split at hc
 ·rename_i fn hfn
  simp only [Bool.and_eq_true, Bool.not_eq_true'] at hc
  have hb : fn.body.isNone = false := by cases h : fn.body <;> simp_all
  unfold callFunc
  simp only [Sem.run_bind, run_program, Result.andThen_ok, hfn, hc.1, hb, Bool.false_eq_true, if_false, Sem.run_pure]
 ·cases hc
def Sim (P : Program) (f : FuncId) (args : List Value) (h : Heap) (R : Value → Heap → Prop) : Prop :=
 callable P f = true ∧ ∀ (ι : Map) (w : World) (args' : List Value), F2 (VR ι) args args' → HR ι h w →
  Calls P f ⟨args'⟩ w fun e w' => ∃ v v' h' ι', R v h' ∧ e = .returned v' ∧ VR ι' v v' ∧ HR ι' h' w' ∧ Ext ι h w ι' h' w'
def Summ (P : Program) (f : FuncId) (S : List Value → Heap → Option (Value × Heap)) : Prop :=
 ∀ args h v h', S args h = some (v, h') → Sim P f args h fun v1 h1 => v1 = v ∧ h1 = h'
def EnvOk (P : Program) (Γ : Env) : Prop := ∀ f, Summ P f (Γ f)
inductive OpOk (P : Program) (ι : Map) (h : Heap) (w : World) (a : Act) (o : Oper) (v : Value) (h' : Heap) : Prop
 | eff : EffOk P ι h w a o v h' → OpOk P ι h w a o v h'
 | call (f : FuncId) (args' : List Value) : (execOp a.eval o).run P w = .ok (.enter f ⟨args'⟩) w →
   (Calls P f ⟨args'⟩ w fun e w' => ∃ v' ι', e = .returned v' ∧ VR ι' v v' ∧ HR ι' h' w' ∧ Ext ι h w ι' h' w') → OpOk P ι h w a o v h'
def effK : IK → Bool
 | .box _ | .alloc _ | .mkrow _ _ _ | .store _ _ _ | .mkslice _ _ _ _ _ | .call _ _ | .callv _ _ | .append _ _ _ _ | .copy _ _ _ => true
 | _ => false
def effOp : Op → Bool
 | .alloc _ | .box _ _ | .buildSlice _ _ _ | .store _ _ _ | .makeSlice _ _ _ | .call _ => true
 | _ => false
theorem opA_pure {Γ : Env} {k : IK} (hk : effK k = false) : opA Γ k t h = (match pureA k t h with | some v => some (v, h) | none => none) := by
 cases k <;> first | rfl | cases hk
theorem stK_pure (op : Op) (hk : effOp op = false) : effK (stK P op) = false := by
 cases op <;> first | (cases hk; done) | skip
 all_goals simp only [stK]
 all_goals first | rfl | skip
 all_goals ((repeat' split) <;> rfl)
theorem op_sim {Γ : Env} (hΓ : EnvOk P Γ) {o : Oper} {v : Value} {h' : Heap} (H : HR ι h w) (hF : F2 (VR ι) t a.tmps.toList) (e : opA Γ (stK P o.op) t h = some (v, h')) : OpOk P ι h w a o v h' := by
 have pure : effK (stK P o.op) = false → OpOk P ι h w a o v h' := by
  intro hk
  rw [opA_pure hk] at e
  split at e
  ·rename_i u hu
   cases e
   obtain ⟨v', h1, h2⟩ := pure_sim (P := P) (o := o) H hF hu
   exact .eff (eff_value h1 h2 H (Ext.refl ι h w))
  ·cases e
 have one : ∀ {f : FuncId} {args args' : List Value}, F2 (VR ι) args args' → Γ f args h = some (v, h') → (callable P f = true → (execOp a.eval o).run P w = .ok (.enter f ⟨args'⟩) w) → OpOk P ι h w a o v h' := by
  intro f args args' hA hG hr
  obtain ⟨hc, hs⟩ := hΓ f args h v h' hG
  exact .call f args' (hr hc) ((hs ι w args' hA H).mono fun e w' ⟨v1, v', h1, ι', ⟨q1, q2⟩, r1, r2, r3, r4⟩ => by subst q1; subst q2; exact ⟨v', ι', r1, r2, r3, r4⟩)
 by_cases hop : effOp o.op = false
 ·exact pure (stK_pure o.op hop)
 obtain ⟨dst, op, type, pos, after, guard⟩ := o
 dsimp only at pure one hop e
 cases op <;> first | (exact absurd rfl hop) | skip
 case alloc T =>
  simp only [stK] at e
  split at e
  ·rename_i z hz; cases e; exact .eff (allocT_sim H hz)
  ·cases e
 case box T x =>
  simp only [stK] at e
  split at e
  ·rename_i hx
   simp only [opA] at e
   split at e
   ·rename_i hn; cases e; exact .eff (box_sim H (ev_sim hF hx) hn)
   ·cases e
  ·cases e
 case buildSlice T len ps =>
  simp only [stK] at e
  split at e
  ·rename_i E hu
   split at e
   ·rename_i n z hs hz
    split at e
    ·rename_i hc
     split at e
     ·rename_i l hl
      simp only [opA] at e
      split at e
      ·rename_i r hr
       cases e
       exact .eff (mkrow_sim H hF hu hs hz hc.1 hc.2.1 hc.2.2 hl hr)
      ·cases e
     ·cases e
    ·cases e
   ·cases e
  ·cases e
 case store T x y =>
  simp only [stK] at e
  split at e
  ·rename_i n hn
   split at e
   ·rename_i hx
    simp only [Bool.and_eq_true] at hx
    have hv := ev_sim hF hx.1
    have hy := ev_sim hF hx.2
    simp only [opA] at e
    split at e
    ·rename_i p hp
     split at e
     ·rename_i hc
      split at e
      ·rename_i h1 hw
       cases e
       obtain ⟨B, o, s⟩ := p
       rw [hp] at hv
       obtain ⟨rfl, l, hl, hv'⟩ := hv.ptr_inv
       have hcs := (hy.va_of hc.1).cells
       obtain ⟨w1, g0, g1, g2⟩ := store_sim (P := P) H hw hl hcs
       refine .eff ⟨w1, ι, .inr ⟨?_, rfl⟩, g1, g2⟩
       have hsz : (a.eval y).cells.size = n := by rw [← Array.length_toList, ← hcs.length, hc.2]
       simp only [execOp, hv', Instr.storeAt, Instr.sureAddr, storeVar, Sem.run_bind, Sem.run_pure, Result.andThen_ok, run_sz hn, hsz, ne_eq, not_true_eq_false, if_false, g0]
      ·cases e
     ·cases e
    ·cases e
   ·cases e
  ·cases e
 case makeSlice T x y =>
  simp only [stK] at e
  split at e
  ·rename_i E hu
   split at e
   ·rename_i i z hi hz
    split at e
    ·rename_i hx
     simp only [Bool.and_eq_true, decide_eq_true_eq] at hx
     have hv := ev_sim hF hx.1.1.1
     have hy := ev_sim hF hx.1.1.2
     simp only [opA] at e
     split at e
     ·rename_i l c hl hc
      split at e
      ·rename_i hb
       cases e
       rw [hl] at hv
       rw [hc] at hy
       obtain ⟨w1, ι1, v1, r0, r1, r2, r3⟩ := mkslice_sim (P := P) H hu hi hz hx.1.2 hx.2 hb.1 hb.2.1 hb.2.2.1 hb.2.2.2.1
       exact .eff (eff_value (by simp only [execOp, hv.int_inv, hy.int_inv, Sem.run_bind, r0, Result.andThen_ok, Sem.run_pure]) r1 r2 r3)
      ·cases e
     ·cases e
    ·cases e
   ·cases e
  ·cases e
 case call c =>
  simp only [stK] at e
  split at e
  ·rename_i hargs
   have hl : c.args.map a.eval = ⟨c.args.toList.map a.eval⟩ := by apply Array.ext'; simp
   have hA := evs_sim hF hargs
   split at e
   ·rename_i f hc
    refine one hA e fun hcall => ?_
    simp only [execOp, resolve, hc, hl, Act.eval, Deferred.ofValue, Sem.run_bind, Sem.run_pure, Result.andThen_ok, invoke]
    have : (#[] ++ (⟨c.args.toList.map a.eval⟩ : Array Value) ++ #[]) = ⟨c.args.toList.map a.eval⟩ := by simp
    rw [this, callFunc_run hcall]
   ·rename_i x hc
    simp only [opA] at e
    split at e
    ·rename_i f p q hx
     have hv : VR ι (ev t (.tmp x)) (a.eval (.tmp x)) := ev_sim hF rfl
     rw [hx] at hv
     obtain ⟨pl⟩ := p
     obtain ⟨ql⟩ := q
     have hfn : ∃ p' q', a.eval (.tmp x) = .func (.func f) ⟨p'⟩ ⟨q'⟩ ∧ F2 (VR ι) pl p' ∧ F2 (VR ι) ql q' := by
      generalize a.eval (.tmp x) = u at hv
      cases hv with
      | va hv => cases hv with
       | vc hv => cases hv with
        | v0 hv => cases hv
        | fn _ h1 h2 => exact ⟨_, _, rfl, h1.mono fun _ _ h => .v0 h, h2.mono fun _ _ h => .v0 h⟩
     obtain ⟨p', q', he, f1, f2⟩ := hfn
     refine one (f1.append (hA.append f2)) e fun hcall => ?_
     simp only [execOp, resolve, hc, hl, he, Deferred.ofValue, Sem.run_bind, Sem.run_pure, Result.andThen_ok, invoke]
     have : ((⟨p'⟩ : Array Value) ++ ⟨c.args.toList.map a.eval⟩ ++ ⟨q'⟩) = ⟨p' ++ (c.args.toList.map a.eval ++ q')⟩ := by apply Array.ext'; simp
     rw [this, callFunc_run hcall]
    ·cases e
   ·rename_i b hc
    split at e
    ·refine pure ?_
     rename_i x T h1 h2
     simp only [stK, hargs, if_true, hc, h1, h2]
     (repeat' split) <;> rfl
    ·rename_i s x T U h1 h2
     split at e
     ·rename_i hTU
      subst hTU
      split at e
      ·rename_i E hu
       split at e
       ·rename_i i z hi hz
        split at e
        ·rename_i hzs
         simp only [opA] at e
         rw [h1] at hargs hl
         simp only [List.all_cons, List.all_nil, Bool.and_true, Bool.and_eq_true] at hargs
         obtain ⟨w1, ι1, v1, r0, r1, r2, r3⟩ := append_sim (P := P) (ty := type) H hu hi hz hzs (ev_sim hF hargs.1) (ev_sim hF hargs.2) e
         have ht : c.argTypes = #[T, T] := by apply Array.ext'; simpa using h2
         have hxa : c.args.map a.eval = #[a.eval s, a.eval x] := hl
         refine .eff (eff_value ?_ r1 r2 r3)
         simp only [execOp, resolve, hc, hxa, Sem.run_bind, Sem.run_pure, Result.andThen_ok, invoke, builtin, ht, r0]
        ·cases e
       ·cases e
      ·cases e
     ·cases e
    ·rename_i d s T U h1 h2
     split at e
     ·rename_i hTU
      subst hTU
      split at e
      ·rename_i E hu
       split at e
       ·rename_i n hn
        simp only [opA] at e
        rw [h1] at hargs hl
        simp only [List.all_cons, List.all_nil, Bool.and_true, Bool.and_eq_true] at hargs
        obtain ⟨w1, r0, r1, r2, r3⟩ := copy_sim (P := P) (ty := type) H hu hn (ev_sim hF hargs.1) (ev_sim hF hargs.2) e
        have ht : c.argTypes = #[T, T] := by apply Array.ext'; simpa using h2
        have hxa : c.args.map a.eval = #[a.eval d, a.eval s] := hl
        refine .eff (eff_value ?_ r1 r2 r3)
        simp only [execOp, resolve, hc, hxa, Sem.run_bind, Sem.run_pure, Result.andThen_ok, invoke, builtin, ht, r0]
       ·cases e
      ·cases e
     ·cases e
    ·refine pure ?_
     rename_i x y h1
     simp only [stK, hc, h1]
     split <;> rfl
    ·refine pure ?_
     rename_i x y h1
     simp only [stK, hc, h1]
     split <;> rfl
    ·cases e
   ·cases e
  ·cases e
end Go.Am
namespace Go.Am
set_option linter.all false
variable {P : Program} {ι : Map} {h : Heap} {w w' : World} {t : Fr} {a : Act}
structure Rel (ι : Map) (t : Fr) (h : Heap) (a : Act) (w : World) : Prop where
 fr : F2 (VR ι) t a.tmps.toList
 defers : a.defers = []
 hr : HR ι h w
theorem put_rel {dst : Option Tmp} {v v' : Value} (hF : F2 (VR ι) t a.tmps.toList) (hv : VR ι v v') : F2 (VR ι) (put t dst v) (a.put dst v').tmps.toList := by
 cases dst with
 | none => exact hF
 | some d => simp only [put, Act.put, Array.toList_setIfInBounds]; exact hF.set d _ _ hv
theorem put_defers {dst : Option Tmp} {v : Value} : (a.put dst v).defers = a.defers := by cases dst <;> rfl
theorem bool_of_vr {u u' : Value} (hv : VR ι u u') : (∀ b, u = .bool b → u' = .bool b) ∧ (∀ b, u' = .bool b → u = .bool b) := by
 constructor
 ·intro b hb; subst hb; exact hv.bool_inv
 ·intro b hb; subst hb
  cases hv with
  | va hv => cases hv with
   | vc hv => cases hv with
    | v0 hv => cases hv; rfl
theorem want_at {ops : Array Oper} {o : Oper} {g : Option (Nat × Bool)} (hF : ∀ d b, g = some (d, b) → VR ι (t.getD d undef) (a.tmps.toList.getD d undef)) (hg : stG ops o.guard = some g) : Region.wanted o (yielded ops a.tmps) = want t g := by
 unfold Region.wanted
 unfold stG at hg
 cases hgu : o.guard with
 | none => rw [hgu] at hg; cases hg; rfl
 | some jb =>
  obtain ⟨j, b⟩ := jb
  rw [hgu] at hg
  dsimp only at hg ⊢
  split at hg
  ·rename_i oj hj
   split at hg
   ·rename_i d hd
    cases hg
    simp only [want, yielded, hj, Option.bind_some, hd]
    have hv := hF d _ rfl
    obtain ⟨b1, b2⟩ := bool_of_vr hv
    have e : (a.tmps[d]? : Option Value) = a.tmps.toList[d]? := by simp
    rw [e]
    generalize t.getD d undef = x at b1 b2
    cases hq : a.tmps.toList[d]? with
    | none =>
     have hq2 : a.tmps.toList.getD d undef = undef := by simp [List.getD, hq]
     rw [hq2] at b1
     cases x <;> first | rfl | skip
     rename_i c
     have := b1 c rfl
     cases this
    | some u =>
     have hq2 : a.tmps.toList.getD d undef = u := by simp [List.getD, hq]
     rw [hq2] at b1 b2
     cases x
     case bool c =>
      have := b1 c rfl
      subst this
      cases c <;> cases b <;> rfl
     all_goals
      cases u <;> first | rfl | skip
      rename_i c
      have := b2 c rfl
      cases this
   ·cases hg
  ·cases hg
theorem want_sim {ops : Array Oper} {o : Oper} {g : Option (Nat × Bool)} (hF : F2 (VR ι) t a.tmps.toList) (hg : stG ops o.guard = some g) : Region.wanted o (yielded ops a.tmps) = want t g :=
 want_at (fun d _ _ => hF.getD d _ _ (VR.undef ι)) hg
theorem region_sim {Γ : Env} (hΓ : EnvOk P Γ) {ops : Array Oper} {Q : Exit → Act → World → Prop} {t' : Fr} {h' : Heap} : ∀ (l : List Oper) (ils : List IOp) (t : Fr) (h : Heap) (ι : Map) (a : Act) (w : World),
  stOps P ops l = some ils → runR Γ ils t h = some (t', h') → Rel ι t h a w → (∀ ι' a' w', Rel ι' t' h' a' w' → Ext ι h w ι' h' w' → Q .normal a' w') → wpList P ops Q l a w
 | [], ils, t, h, ι, a, w, hs, hr, R, K => by
  cases hs
  cases hr
  exact K ι a w R (Ext.refl _ _ _)
 | o :: l, ils, t, h, ι, a, w, hs, hr, R, K => by
  simp only [stOps] at hs
  split at hs
  ·rename_i x il hx hil
   cases hs
   unfold stOp at hx
   split at hx
   ·rename_i g hg
    cases hx
    unfold wpList
    rw [want_sim R.fr hg]
    simp only [runR] at hr
    split at hr
    ·rename_i hw
     rw [if_pos hw]
     refine .inl ?_
     split at hr
     ·rename_i v h1 hv
      have hop := op_sim hΓ R.hr R.fr hv
      have next : ∀ (v' : Value) (w1 : World) (ι1 : Map), VR ι1 v v' → HR ι1 h1 w1 → Ext ι h w ι1 h1 w1 → wpList P ops Q l (a.put o.dst v') w1 := by
       intro v' w1 ι1 hv' H1 E1
       exact region_sim hΓ l il _ h1 ι1 _ w1 hil hr ⟨put_rel (R.fr.mono fun _ _ q => q.mono E1.sub) hv', by rw [put_defers]; exact R.defers, H1⟩ fun ι2 a2 w2 R2 E2 => K ι2 a2 w2 R2 (E1.trans E2)
      unfold Oper.wp
      cases hop with
      | eff he =>
       obtain ⟨w1, ι1, hrun, H1, E1⟩ := he
       rcases hrun with ⟨v', hrun, hv'⟩ | ⟨hrun, rfl⟩
       ·rw [hrun]; exact next v' w1 ι1 hv' H1 E1
       ·rw [hrun]; exact next undef w1 ι1 (VR.undef ι1) H1 E1
      | call f args' hrun hc =>
       rw [hrun]
       exact hc.mono fun e w1 ⟨v', ι1, he, hv', H1, E1⟩ => by subst he; exact next v' w1 ι1 hv' H1 E1
     ·cases hr
    ·rename_i hw
     rw [if_neg hw]
     exact region_sim hΓ l il _ h ι _ w hil hr ⟨put_rel R.fr (VR.undef ι), by rw [put_defers]; exact R.defers, R.hr⟩ K
   ·cases hx
  ·cases hs
theorem least {p : Nat → Prop} (n : Nat) (h : p n) : ∃ m, p m ∧ ∀ k, p k → m ≤ k := by
 induction n using Nat.strongRecOn with
 | _ n ih =>
  by_cases q : ∃ k, k < n ∧ p k
  ·obtain ⟨k, hk, hp⟩ := q; exact ih k hk hp
  ·exact ⟨n, h, fun k hk => Nat.le_of_not_lt fun hlt => q ⟨k, hlt, hk⟩⟩
def below0 (n : Nat) : Value → Bool
 | .pointer (some a) => decide (a.block < n)
 | .slice (some a) _ _ => decide (a.block < n)
 | _ => true
def belowC (n : Nat) : Value → Bool
 | .func _ a b => a.toList.all (below0 n) && b.toList.all (below0 n)
 | v => below0 n v
def belowA (n : Nat) : Value → Bool
 | .agg a => a.toList.all (belowC n)
 | v => belowC n v
def belowV (n : Nat) : Value → Bool
 | .tuple a => a.toList.all (belowA n)
 | v => belowA n v
def cutM (ι : Map) (n : Nat) : Map := fun B => if B < n then ι B else none
theorem V0.cut {n : Nat} {v v' : Value} (hv : V0 ι v v') (hb : below0 n v = true) : V0 (cutM ι n) v v' := by
 cases hv with
 | ptr hl => simp only [below0, decide_eq_true_eq] at hb; exact .ptr (by simp [cutM, hb, hl])
 | sl hl hc => simp only [below0, decide_eq_true_eq] at hb; exact .sl (by simp [cutM, hb, hl]) hc
 | sl0 hl => simp only [below0, decide_eq_true_eq] at hb; exact .sl0 (by simp [cutM, hb]; exact hl)
 | _ => constructor
theorem F2.cut {α β : Type} {R S : α → β → Prop} {q : α → Bool} (hr : ∀ a b, R a b → q a = true → S a b) {l : List α} {m : List β} (hf : F2 R l m) (hq : l.all q = true) : F2 S l m := by
 induction hf with
 | nil => exact .nil
 | cons h _ ih =>
  simp only [List.all_cons, Bool.and_eq_true] at hq
  exact .cons (hr _ _ h hq.1) (ih hq.2)
theorem VC.cut {n : Nat} {v v' : Value} (hv : VC ι v v') (hb : belowC n v = true) : VC (cutM ι n) v v' := by
 cases hv with
 | v0 h => exact .v0 (h.cut (by cases h <;> exact hb))
 | fn f h1 h2 =>
  simp only [belowC, Bool.and_eq_true] at hb
  exact .fn f (h1.cut (fun _ _ h q => h.cut q) hb.1) (h2.cut (fun _ _ h q => h.cut q) hb.2)
theorem VA.cut {n : Nat} {v v' : Value} (hv : VA ι v v') (hb : belowA n v = true) : VA (cutM ι n) v v' := by
 cases hv with
 | vc h => exact .vc (h.cut (by cases h with | v0 h => cases h <;> exact hb | fn => exact hb))
 | agg h => exact .agg (h.cut (fun _ _ h q => h.cut q) hb)
theorem VR.cut {n : Nat} {v v' : Value} (hv : VR ι v v') (hb : belowV n v = true) : VR (cutM ι n) v v' := by
 cases hv with
 | va h => exact .va (h.cut (by
   cases h with
   | vc h => cases h with
    | v0 h => cases h <;> exact hb
    | fn => exact hb
   | agg h => exact hb))
 | tup h => exact .tup (h.cut (fun _ _ h q => h.cut q) hb)
def belowB (n : Nat) : Option Blk → Bool
 | some b => b.cells.all (belowC n)
 | none => true
theorem HR.cut {h' : Heap} (H : HR ι h' w) (n : Nat) (hn : n ≤ h'.length) (hb : (h'.take n).all (belowB n) = true) : HR (cutM ι n) (h'.take n) w where
 dom := fun B l e => by
  unfold cutM at e
  split at e
  ·simp; omega
  ·cases e
 live := fun B blk e => by
  rw [List.getElem?_take] at e
  split at e
  ·rename_i hB
   obtain ⟨l, e1, f1, f2, f3, f4, c, e2, f, f5, f6, f7, f8⟩ := H.live B blk e
   have hq : belowB n (some blk) = true := List.all_eq_true.1 hb _ (List.mem_of_getElem? (by rw [List.getElem?_take, if_pos hB]; exact e))
   exact ⟨l, by simp [cutM, hB, e1], f1, f2, f3, f4, c, e2, f, f5, f6, f7, f8.cut (fun _ _ h q => h.cut q) hq⟩
  ·cases e
 apart := fun B1 B2 b1 b2 l1 l2 e1 e2 hne hr h1 h2 => by
  rw [List.getElem?_take] at e1 e2
  split at e1
  ·rename_i q1
   split at e2
   ·rename_i q2
    simp only [cutM, q1, q2, if_true] at h1 h2
    exact H.apart B1 B2 b1 b2 l1 l2 e1 e2 hne hr h1 h2
   ·cases e2
  ·cases e1
theorem Ext.cut {ι' : Map} {h' : Heap} (H : HR ι h w) (E : Ext ι h w ι' h' w') : Ext ι h w (cutM ι' h.length) (h'.take h.length) w' where
 sub := fun B l e => by have := H.dom B l e; simp only [cutM, this, if_true]; exact E.sub B l e
 size := E.size
 frame := E.frame
 imgs := fun B blk l e hr hl => by
  rw [List.getElem?_take] at e
  split at e
  ·rename_i q
   simp only [cutM, q, if_true] at hl
   exact E.imgs B blk l e hr hl
  ·cases e
 os := E.os
 tape := E.tape
 output := E.output
 imgR := fun B blk l e hl => by
  rw [List.getElem?_take] at e
  split at e
  ·rename_i q
   simp only [cutM, q, if_true] at hl
   exact E.imgR B blk l e hl
  ·cases e
theorem V0.below {n : Nat} (hd : ∀ B l, ι B = some l → B < n) {v v' : Value} (hv : V0 ι v v') : below0 n v = true := by
 cases hv with
 | ptr hl => simp only [below0, decide_eq_true_eq]; exact hd _ _ hl
 | sl hl hc => simp only [below0, decide_eq_true_eq]; exact hd _ _ hl
 | sl0 hl => simp only [below0, decide_eq_true_eq]; exact hd _ _ hl
 | _ => rfl
theorem F2.allB {α β : Type} {R : α → β → Prop} {q : α → Bool} (hr : ∀ a b, R a b → q a = true) {l : List α} {m : List β} (hf : F2 R l m) : l.all q = true := by
 induction hf with
 | nil => rfl
 | cons h _ ih => simp only [List.all_cons, Bool.and_eq_true]; exact ⟨hr _ _ h, ih⟩
theorem VC.below {n : Nat} (hd : ∀ B l, ι B = some l → B < n) {v v' : Value} (hv : VC ι v v') : belowC n v = true := by
 cases hv with
 | v0 h =>
  have := h.below hd
  cases h <;> exact this
 | fn f h1 h2 =>
  simp only [belowC, Bool.and_eq_true]
  exact ⟨h1.allB fun _ _ h => h.below hd, h2.allB fun _ _ h => h.below hd⟩
theorem VR.cells_below {n : Nat} (hd : ∀ B l, ι B = some l → B < n) {v v' : Value} (hv : VR ι v v') (hn : noTup v = true) : v.cells.toList.all (belowC n) = true := by
 cases hv with
 | va h => exact h.cells.allB fun _ _ h => h.below hd
 | tup h => cases hn
theorem HR.allBelow (H : HR ι h w) : h.all (belowB h.length) = true := by
 rw [List.all_eq_true]
 intro x hx
 cases x with
 | none => rfl
 | some blk =>
  obtain ⟨B, hB⟩ := List.mem_iff_getElem?.1 hx
  obtain ⟨l, _, _, _, _, _, c, _, _, _, _, _, hf⟩ := H.live B blk hB
  exact hf.allB fun _ _ h => h.below H.dom
end Go.Am
namespace Go.Am
set_option linter.all false
variable {P : Program} {ι : Map} {h : Heap} {w w' : World} {t : Fr} {a : Act}
def heapFree : IK → Bool
 | .mov _ | .pick _ _ _ | .build _ _ | .nilck _ | .bin _ _ _ | .eqv _ _ _ _ | .un _ _ | .conv _ _ | .mkfun _ _ _ | .strsl _ _ _ | .slarr _ _ _ _ _ | .fld _ _ _ | .fadr _ _ | .iadr _ _ _ _
 | .idx _ _ _ _ _ | .sidx _ _ | .ext _ _ | .len _ | .slen _ | .mn _ _ | .mx _ _ => true
 | _ => false
def isAlloc : IK → Bool
 | .box _ | .alloc _ | .mkrow _ _ _ | .mkslice _ _ _ _ _ => true
 | _ => false
def isEff (qt : List Nat) : IK → Bool
 | .box _ | .alloc _ | .mkrow _ _ _ | .mkslice _ _ _ _ _ | .store _ _ _ | .callv _ _ | .append _ _ _ _ | .copy _ _ _ => true
 | .call f _ => !qt.contains f
 | _ => false
def isCall : IK → Bool
 | .call _ _ => true
 | _ => false
def opnds : IK → List Operand
 | .mov x | .box x | .nilck x | .un _ x | .conv _ x | .b2s x | .fld _ _ x | .fadr _ x | .ext _ x | .len x | .slen x | .load x _ => [x]
 | .pick a b c => [a, b, c]
 | .alloc _ | .bad => []
 | .build _ ps | .mkrow _ _ ps => ps.map (·.2.2)
 | .store x v _ => [x, v]
 | .bin _ x y | .eqv _ _ x y | .iadr _ _ x y | .idx _ _ _ x y | .sidx x y | .append _ _ x y | .copy _ x y | .mn x y | .mx x y | .mkslice _ _ _ x y => [x, y]
 | .mkfun _ a b => a ++ b
 | .slice _ x l h m => x :: (l.toList ++ (h.toList ++ m.toList))
 | .strsl x l h | .slarr _ _ x l h => x :: (l.toList ++ h.toList)
 | .call _ xs => xs
 | .callv x xs => x :: xs
theorem map_congr_opt {t t' : Fr} {x : Option Operand} (hx : ∀ o ∈ x.toList, ev t o = ev t' o) : x.map (ev t) = x.map (ev t') := by
 cases x with
 | none => rfl
 | some o => simp [hx o (by simp)]
theorem evps_congr {t t' : Fr} {ps : List (Nat × Nat × Operand)} (hx : ∀ o ∈ ps.map (·.2.2), ev t o = ev t' o) : evps t ps = evps t' ps := by
 unfold evps
 apply List.map_congr_left
 intro p hp
 rw [hx p.2.2 (List.mem_map.2 ⟨p, hp, rfl⟩)]
theorem opA_congr {Γ : Env} {k : IK} {t t' : Fr} (hx : ∀ o ∈ opnds k, ev t o = ev t' o) : opA Γ k t h = opA Γ k t' h := by
 cases k <;> simp only [opnds] at hx
 case build z ps => simp only [opA, pureA, evps_congr hx]
 case mkrow z n ps => simp only [opA, evps_congr hx]
 case call f xs => simp only [opA]; rw [List.map_congr_left hx]
 case callv x xs =>
  have h1 := hx x (by simp)
  have h2 : xs.map (ev t) = xs.map (ev t') := List.map_congr_left fun o ho => hx o (by simp [ho])
  simp only [opA, h1, h2]
 case mkfun fn a b =>
  have h1 : a.map (ev t) = a.map (ev t') := List.map_congr_left fun o ho => hx o (by simp [ho])
  have h2 : b.map (ev t) = b.map (ev t') := List.map_congr_left fun o ho => hx o (by simp [ho])
  simp only [opA, pureA, h1, h2]
 case slice e x l hh m =>
  have h0 := hx x (by simp)
  have h1 := map_congr_opt (x := l) fun o ho => hx o (by simp at ho ⊢; simp [ho])
  have h2 := map_congr_opt (x := hh) fun o ho => hx o (by simp at ho ⊢; simp [ho])
  have h3 := map_congr_opt (x := m) fun o ho => hx o (by simp at ho ⊢; simp [ho])
  simp only [opA, pureA, h0, h1, h2, h3]
 case strsl x l hh =>
  have h0 := hx x (by simp)
  have h1 := map_congr_opt (x := l) fun o ho => hx o (by simp at ho ⊢; simp [ho])
  have h2 := map_congr_opt (x := hh) fun o ho => hx o (by simp at ho ⊢; simp [ho])
  simp only [opA, pureA, h0, h1, h2]
 case slarr e n x l hh =>
  have h0 := hx x (by simp)
  have h1 := map_congr_opt (x := l) fun o ho => hx o (by simp at ho ⊢; simp [ho])
  have h2 := map_congr_opt (x := hh) fun o ho => hx o (by simp at ho ⊢; simp [ho])
  simp only [opA, pureA, h0, h1, h2]
 all_goals first
  | rfl
  | (have h0 := hx _ (List.mem_cons_self ..); simp only [opA, pureA, h0]; done)
  | (have h0 := hx _ (List.mem_cons_self ..); have h1 := hx _ (List.mem_cons_of_mem _ (List.mem_cons_self ..)); simp only [opA, pureA, h0, h1]; done)
  | (have h0 := hx _ (List.mem_cons_self ..); have h1 := hx _ (List.mem_cons_of_mem _ (List.mem_cons_self ..)); have h2 := hx _ (List.mem_cons_of_mem _ (List.mem_cons_of_mem _ (List.mem_cons_self ..))); simp only [opA, pureA, h0, h1, h2]; done)
theorem opA_free {Γ : Env} {k : IK} (hk : heapFree k = true) {h h1 h' : Heap} {v : Value} (e : opA Γ k t h = some (v, h')) : h' = h ∧ opA Γ k t h1 = some (v, h1) := by
 have hp : effK k = false := by cases k <;> first | rfl | cases hk
 rw [opA_pure hp] at e ⊢
 have : pureA k t h1 = pureA k t h := by cases k <;> first | rfl | cases hk
 rw [this]
 split at e
 ·cases e; exact ⟨rfl, rfl⟩
 ·cases e
theorem rd_more {h L : Heap} {B : Nat} {b : Blk} (e : rd h B = some b) : rd (h ++ L) B = some b := by
 have hb := rd_some e
 have : (h ++ L)[B]? = some (some b) := by
  rw [List.getElem?_append_left (List.getElem?_eq_some_iff.1 hb).1]; exact hb
 simp [rd, this]
theorem readN_more {h L : Heap} {p : Addr} {n : Nat} {l : List Value} (e : readN h p n = some l) : readN (h ++ L) p n = some l := by
 obtain ⟨B, o, s⟩ := p
 obtain ⟨rfl, b, hb, hle, rfl⟩ := readN_some e
 simp [readN, rd_more hb, hle]
theorem read1_more {h L : Heap} {p : Addr} {v : Value} (e : read1 h p = some v) : read1 (h ++ L) p = some v := by
 obtain ⟨B, o, s⟩ := p
 cases s with
 | some s => cases e
 | none =>
  simp only [read1] at e ⊢
  split at e
  ·rename_i b hb; rw [rd_more hb]; exact e
  ·cases e
theorem isEnd_more {h L : Heap} {esz : Nat} {p : Addr} {cap : Nat} {q : Bool} (e : isEnd h esz p cap = some q) : isEnd (h ++ L) esz p cap = some q := by
 unfold isEnd at e ⊢
 split at e
 ·rename_i b hb; rw [rd_more hb]; exact e
 ·cases e
theorem pureA_more {k : IK} {L : Heap} {v : Value} (e : pureA k t h = some v) : pureA k t (h ++ L) = some v := by
 cases k
 case load x n =>
  simp only [pureA] at e ⊢
  split at e
  ·rename_i p hp; exact read1_more e
  ·rename_i p n hp
   split at e
   ·rename_i l hl; rw [readN_more hl]; exact e
   ·cases e
  ·cases e
 case b2s x =>
  simp only [pureA] at e ⊢
  unfold b2sA at e ⊢
  split at e
  ·exact e
  ·rename_i p n c hp
   split at e
   ·rename_i l hl; rw [readN_more hl]; exact e
   ·cases e
  ·cases e
 case slice esz x l hh m =>
  simp only [pureA] at e ⊢
  unfold sliceA at e ⊢
  split at e
  ·rename_i p n c hp
   split at e
   ·exact e
   ·split at e
    ·rename_i ee he
     split at e
     ·rename_i l1 hl
      split at e
      ·exact e
      ·rename_i p1
       split at e
       ·rename_i q hq; rw [isEnd_more hq]; exact e
       ·cases e
     ·cases e
    ·cases e
  ·cases e
 all_goals exact e
end Go.Am
namespace Go.Am
set_option linter.all false
variable {P : Program} {ι : Map} {h : Heap} {w w' : World} {t : Fr} {a : Act}
def edgesOf (o : Oper) : List Nat := (o.after.toList.filter (Region.binds .any)).map (·.on)
def maskOf (B : List Nat) (ds : List Nat) : Nat := ds.foldl (fun m d => m ||| (B.getD d 0 ||| 2 ^ d)) 0
def befs : List Oper → List Nat → Option (List Nat)
 | [], B => some B
 | o :: r, B => if (edgesOf o).all (fun d => decide (d < B.length)) then befs r (B ++ [maskOf B (edgesOf o)]) else none
def ord (B : List Nat) (i j : Nat) : Bool := (B.getD j 0).testBit i
def tmpOf : Operand → Option Nat
 | .tmp x => some x
 | _ => none
def reads (o : IOp) : List Nat := (opnds o.k).filterMap tmpOf ++ (match o.g with | some p => [p.1] | none => [])
def clash (x y : IOp) : Bool :=
 (match x.dst with | some d => (reads y).contains d || y.dst == some d | none => false) || (match y.dst with | some d => (reads x).contains d | none => false)
def effB (qt : List Nat) (os : List IOp) (e : Nat) : Bool := match os[e]? with
 | some x => isEff qt x.k
 | none => false
def touches (d : Nat) (o : Oper) (x : IOp) : Bool := o.op.operands.toList.any (fun y => tmpOf y == some d) || (reads x).contains d || x.dst == some d
def zOk : IK → Bool
 | .alloc z | .mkrow z _ _ | .mkslice _ _ z _ _ => z.all (belowC 0)
 | _ => true
def looseOk (qt : List Nat) (ops : List Oper) (os : List IOp) (B : List Nat) (j : Nat) : Bool :=
 match os[j]? with
 | some y => isAlloc y.k && y.g.isNone && (zOk y.k && (opnds y.k).all opdOK) && (match y.dst with
  | some d => (List.range os.length).all fun r => r == j || (match ops[r]?, os[r]? with
   | some o, some x => !touches d o x || (if r < j then ord B r j else (List.range j).all fun e => !effB qt os e || ord B e r)
   | _, _ => false)
  | none => false)
 | none => false
def pairOk (qt : List Nat) (ops : List Oper) (os : List IOp) (B : List Nat) (x y : IOp) (i j : Nat) : Bool :=
 ord B i j || (!clash x y && (!(isEff qt x.k && isEff qt y.k) || looseOk qt ops os B j))
def chkAll (qt : List Nat) (ops : List Oper) (os : List IOp) (B : List Nat) : Bool :=
 (List.range os.length).all fun j => (List.range j).all fun i => match os[i]?, os[j]? with
  | some x, some y => pairOk qt ops os B x y i j
  | _, _ => false
def crossP (qt : List Nat) (os : List IOp) (B : List Nat) (i j : Nat) : Bool :=
 match os[i]?, os[j]? with
 | some x, some y => !isEff qt x.k && !heapFree x.k && isEff qt y.k &&
   (if i < j then !ord B i j && !(isAlloc y.k && !isCall x.k) else !ord B j i || (List.range j).any fun e => effB qt os e && (!ord B e j && !ord B e i))
 | _, _ => false
def crossOf (qt : List Nat) (os : List IOp) (B : List Nat) : List (Nat × Nat) :=
 (List.range os.length).flatMap fun i => ((List.range os.length).filter fun j => crossP qt os B i j).map fun j => (i, j)
def stD (P : Program) (qt : List Nat) (ops : Array Oper) : Option (List IOp × List (Nat × Nat)) :=
 match stOps P ops ops.toList, befs ops.toList [] with
 | some os, some B => if chkAll qt ops.toList os B then some (os, crossOf qt os B) else none
 | _, _ => none
theorem maskOf_bit (B : List Nat) (d : Nat) : ∀ (ds : List Nat) (m : Nat) (i : Nat), (ds.foldl (fun m d => m ||| (B.getD d 0 ||| 2 ^ d)) m).testBit i = true →
  m.testBit i = true ∨ ∃ e ∈ ds, i = e ∨ (B.getD e 0).testBit i = true
 | [], m, i, hb => .inl hb
 | e :: ds, m, i, hb => by
  simp only [List.foldl_cons] at hb
  rcases maskOf_bit B d ds _ i hb with q | ⟨x, hx, q⟩
  ·simp only [Nat.testBit_or, Bool.or_eq_true] at q
   rcases q with q | q | q
   ·exact .inl q
   ·exact .inr ⟨e, by simp, .inr q⟩
   ·refine .inr ⟨e, by simp, .inl ?_⟩
    rw [Nat.testBit_two_pow] at q
    exact (of_decide_eq_true q).symm
  ·exact .inr ⟨x, by simp [hx], q⟩
theorem befs_spec : ∀ (r : List Oper) (B B' : List Nat), befs r B = some B' → ∃ C, B' = B ++ C ∧ C.length = r.length ∧
  ∀ k o, r[k]? = some o → (∀ d ∈ edgesOf o, d < B.length + k) ∧ B'.getD (B.length + k) 0 = maskOf (B'.take (B.length + k)) (edgesOf o)
 | [], B, B', e => by cases e; exact ⟨[], by simp, rfl, by simp⟩
 | o :: r, B, B', e => by
  simp only [befs] at e
  split at e
  ·rename_i hall
   obtain ⟨C, rfl, hl, hC⟩ := befs_spec r _ _ e
   refine ⟨maskOf B (edgesOf o) :: C, by simp, by simp [hl], fun k x hx => ?_⟩
   cases k with
   | zero =>
    simp at hx
    subst hx
    refine ⟨fun d hd => by simpa using List.all_eq_true.1 hall d hd, ?_⟩
    have : (B ++ [maskOf B (edgesOf o)] ++ C).take B.length = B := by simp
    rw [Nat.add_zero, this]
    simp [List.getD]
   | succ k =>
    have := hC k x (by simpa using hx)
    simp only [List.length_append, List.length_singleton] at this
    refine ⟨fun d hd => by have := this.1 d hd; omega, ?_⟩
    rw [show B.length + (k + 1) = B.length + 1 + k by omega]
    exact this.2
  ·cases e
theorem ahead_done {ops : List Oper} {B : List Nat} (hB : befs ops [] = some B) {S : Nat → Bool} (hS : ∀ i o, ops[i]? = some o → S i = true → ∀ d ∈ edgesOf o, S d = true) :
  ∀ (i : Nat) (o : Oper), ops[i]? = some o → (∀ d ∈ edgesOf o, S d = true) → ∀ j, ord B j i = true → S j = true := by
 obtain ⟨C, hC, hl, hspec⟩ := befs_spec ops [] B hB
 intro i
 induction i using Nat.strongRecOn with
 | _ i ih =>
  intro o ho hd j hj
  obtain ⟨g1, g2⟩ := hspec i o ho
  simp only [List.length_nil, Nat.zero_add] at g1 g2
  unfold ord at hj
  rw [g2] at hj
  rcases maskOf_bit _ 0 _ _ _ hj with q | ⟨e, he, q⟩
  ·simp at q
  ·rcases q with rfl | q
   ·exact hd _ he
   ·have hlt := g1 e he
    have hge : (B.take i).getD e 0 = B.getD e 0 := by
     simp only [List.getD, List.getElem?_take, hlt, if_true]
    rw [hge] at q
    have hSe := hd e he
    have hel : e < ops.length := by
     have := (List.getElem?_eq_some_iff.1 ho).1
     omega
    exact ih e hlt ops[e] (List.getElem?_eq_getElem hel) (hS e _ (List.getElem?_eq_getElem hel) hSe) j q
structure Walk (Γ : Env) (os : List IOp) (fr : Nat → Fr) (hp : Nat → Heap) (vl : Nat → Value) : Prop where
 yes : ∀ i o, os[i]? = some o → want (fr i) o.g = true → opA Γ o.k (fr i) (hp i) = some (vl i, hp (i + 1))
 no : ∀ i o, os[i]? = some o → want (fr i) o.g = false → vl i = undef ∧ hp (i + 1) = hp i
 next : ∀ i o, os[i]? = some o → fr (i + 1) = put (fr i) o.dst (vl i)
theorem walk_of {Γ : Env} : ∀ (os : List IOp) (t : Fr) (h : Heap) (t' : Fr) (h' : Heap), runR Γ os t h = some (t', h') →
  ∃ fr hp vl, fr 0 = t ∧ hp 0 = h ∧ fr os.length = t' ∧ hp os.length = h' ∧ Walk Γ os fr hp vl ∧ ∀ i, i ≤ os.length → runR Γ (os.take i) t h = some (fr i, hp i)
 | [], t, h, t', h', e => by
  cases e
  exact ⟨fun _ => t, fun _ => h, fun _ => undef, rfl, rfl, rfl, rfl, ⟨by simp, by simp, by simp⟩, fun i hi => by simp [runR]⟩
 | o :: os, t, h, t', h', e => by
  simp only [runR] at e
  have step : ∀ (v : Value) (h1 : Heap), (want t o.g = true → opA Γ o.k t h = some (v, h1)) → (want t o.g = false → v = undef ∧ h1 = h) → runR Γ os (put t o.dst v) h1 = some (t', h') →
    ∃ fr hp vl, fr 0 = t ∧ hp 0 = h ∧ fr (o :: os).length = t' ∧ hp (o :: os).length = h' ∧ Walk Γ (o :: os) fr hp vl ∧ ∀ i, i ≤ (o :: os).length → runR Γ ((o :: os).take i) t h = some (fr i, hp i) := by
   intro v h1 g1 g2 e
   obtain ⟨fr, hp, vl, f0, p0, fn, pn, W, pre⟩ := walk_of os _ _ _ _ e
   refine ⟨fun i => match i with | 0 => t | i + 1 => fr i, fun i => match i with | 0 => h | i + 1 => hp i, fun i => match i with | 0 => v | i + 1 => vl i, rfl, rfl, fn, pn, ⟨?_, ?_, ?_⟩, ?_⟩
   ·intro i x hx hw
    cases i with
    | zero => simp at hx; subst hx; simp only [p0]; exact g1 hw
    | succ i => exact W.yes i x (by simpa using hx) hw
   ·intro i x hx hw
    cases i with
    | zero => simp at hx; subst hx; simp only [p0]; exact g2 hw
    | succ i => exact W.no i x (by simpa using hx) hw
   ·intro i x hx
    cases i with
    | zero => simp at hx; subst hx; simp only [f0]
    | succ i => exact W.next i x (by simpa using hx)
   ·intro i hi
    cases i with
    | zero => simp [runR]
    | succ i =>
     simp only [List.take_succ_cons, runR]
     have := pre i (by simpa using hi)
     cases hw : want t o.g with
     | true => rw [g1 hw]; simpa using this
     | false => obtain ⟨q1, q2⟩ := g2 hw; subst q1; subst q2; simpa using this
  split at e
  ·rename_i hw
   split at e
   ·rename_i v h1 hv
    exact step v h1 (fun _ => hv) (fun q => by rw [hw] at q; cases q) e
   ·cases e
  ·rename_i hw
   exact step undef h (fun q => absurd q hw) (fun _ => ⟨rfl, rfl⟩) e
def lastV (os : List IOp) (vl : Nat → Value) (S : Nat → Bool) (t : Fr) : Nat → Fr
 | 0 => t
 | m + 1 => if S m then put (lastV os vl S t m) ((os[m]?).bind (·.dst)) (vl m) else lastV os vl S t m
theorem put_getD {t : Fr} {d : Option Nat} {v : Value} {x : Nat} (hx : d ≠ some x) : (put t d v).getD x undef = t.getD x undef := by
 cases d with
 | none => rfl
 | some d =>
  have : d ≠ x := fun q => hx (by rw [q])
  simp [put, List.getD, List.getElem?_set, this]
theorem last_congr {os : List IOp} {vl : Nat → Value} {S S' : Nat → Bool} {t : Fr} {x : Nat} : ∀ m, (∀ j, j < m → (os[j]?).bind (·.dst) = some x → S j = S' j) →
  (lastV os vl S t m).getD x undef = (lastV os vl S' t m).getD x undef ∧ (lastV os vl S t m).length = t.length ∧ (lastV os vl S' t m).length = t.length
 | 0, _ => ⟨rfl, rfl, rfl⟩
 | m + 1, hS => by
  obtain ⟨ih, l1, l2⟩ := last_congr (vl := vl) (t := t) m fun j hj hd => hS j (by omega) hd
  have pl : ∀ (t : Fr) (d : Option Nat) (v : Value), (put t d v).length = t.length := by intro t d v; cases d <;> simp [put]
  refine ⟨?_, by simp only [lastV]; split <;> simp [pl, l1], by simp only [lastV]; split <;> simp [pl, l2]⟩
  simp only [lastV]
  by_cases hd : (os[m]?).bind (·.dst) = some x
  ·have := hS m (by omega) hd
   rw [← this]
   split
   ·rw [hd]
    simp only [put, List.getD, List.getElem?_set, l1, l2, if_true]
   ·exact ih
  ·have e1 : ∀ (S : Nat → Bool), (if S m = true then put (lastV os vl S t m) ((os[m]?).bind (·.dst)) (vl m) else lastV os vl S t m).getD x undef = (lastV os vl S t m).getD x undef := by
    intro S; split
    ·exact put_getD hd
    ·rfl
   rw [e1, e1]
   exact ih
theorem last_lt {os : List IOp} {vl : Nat → Value} {t : Fr} (i : Nat) : ∀ m, lastV os vl (fun j => decide (j < i)) t m = lastV os vl (fun _ => true) t (min m i)
 | 0 => by simp [lastV]
 | m + 1 => by
  simp only [lastV]
  rw [last_lt i m]
  by_cases hm : m < i
  ·have h1 : min (m + 1) i = m + 1 := by omega
   have h2 : min m i = m := by omega
   simp [hm, h1, h2, lastV]
  ·have h1 : min (m + 1) i = min m i := by omega
   simp [hm, h1]
theorem walk_fr {Γ : Env} {os : List IOp} {fr : Nat → Fr} {hp : Nat → Heap} {vl : Nat → Value} (W : Walk Γ os fr hp vl) : ∀ m, m ≤ os.length → lastV os vl (fun _ => true) (fr 0) m = fr m
 | 0, _ => rfl
 | m + 1, hm => by
  have ho : os[m]? = some os[m] := List.getElem?_eq_getElem (by omega)
  simp only [lastV, if_true, walk_fr W m (by omega), ho, Option.bind_some]
  exact (W.next m _ ho).symm
theorem put_put {t : Fr} {d e : Option Nat} {u v : Value} (hne : ∀ x, d = some x → e ≠ some x) : put (put t d u) e v = put (put t e v) d u := by
 cases d with
 | none => rfl
 | some d => cases e with
  | none => rfl
  | some e =>
   have : d ≠ e := fun q => hne d rfl (by rw [q])
   simp only [put]
   rw [List.set_comm _ _ (by omega)]
theorem last_add {os : List IOp} {vl : Nat → Value} {S : Nat → Bool} {t : Fr} {i : Nat} (hi : S i = false) {o : IOp} (ho : os[i]? = some o) :
  ∀ m, i < m → (∀ j, i < j → j < m → S j = true → ∀ x, o.dst = some x → (os[j]?).bind (·.dst) ≠ some x) →
  lastV os vl (fun j => S j || j == i) t m = put (lastV os vl S t m) o.dst (vl i)
 | 0, h0, _ => by omega
 | m + 1, hm, hd => by
  by_cases hmi : m = i
  ·subst hmi
   have below : ∀ k, k ≤ m → lastV os vl (fun j => S j || j == m) t k = lastV os vl S t k := by
    intro k
    induction k with
    | zero => intro _; rfl
    | succ k ih =>
     intro hk
     have : (k == m) = false := by simp; omega
     simp only [lastV, ih (by omega), this, Bool.or_false]
   simp only [lastV, below m (Nat.le_refl _), hi, ho, Option.bind_some, BEq.rfl, Bool.or_true, if_true, Bool.false_eq_true, if_false]
  ·have ih := last_add (vl := vl) (t := t) hi ho m (by omega) fun j h1 h2 => hd j h1 (by omega)
   have hb : (m == i) = false := by simp [hmi]
   simp only [lastV, ih, hb, Bool.or_false]
   split
   ·rename_i hs
    exact put_put fun x hx q => hd m (by omega) (by omega) hs x hx q
   ·rfl
end Go.Am
