/-
  A region that draws its order.
-/
import Derived.Test.YtjnppjipoibbeaaAm17
namespace Go.Am
set_option linter.all false

variable {P : Program} {ι : Map} {h : Heap} {w w' : World} {t : Fr} {a : Act} {qt : List Nat}
variable {Γ : Env} {ops : Array Oper} {os : List IOp} {B : List Nat} {fr : Nat → Fr} {hp : Nat → Heap} {vl : Nat → Value}

def sel (listed : Array Bool) : Nat → Bool := fun i => listed.getD i false

theorem sel_set {listed : Array Bool} {i : Nat} (hi : i < listed.size) : sel (listed.setIfInBounds i true) = fun j => sel listed j || j == i := by
  funext j
  unfold sel
  by_cases hj : i = j
  · subst hj
    simp [hi]
  · rw [getD_set_ne false hj]
    have : (j == i) = false := by simp; omega
    simp [this]

theorem edge_mem {o : Oper} {d : Nat} : d ∈ edgesOf o ↔ ∃ e ∈ o.after, Region.binds .any e = true ∧ e.on = d := by
  unfold edgesOf
  simp [and_assoc]

/-- The places of those that came ahead of their turn. -/
def maskB (qt : List Nat) (os : List IOp) (S : Nat → Bool) (q : Nat) : Nat → Bool := fun d => (List.range os.length).any fun e => earlyB qt os S q e && (os[e]?).bind (·.dst) == some d
theorem maskB_true {S : Nat → Bool} {q d : Nat} (h : maskB qt os S q d = true) : ∃ e y, earlyB qt os S q e = true ∧ os[e]? = some y ∧ y.dst = some d := by
  obtain ⟨e, _, he⟩ := List.any_eq_true.1 h
  simp only [Bool.and_eq_true, beq_iff_eq] at he
  cases hy : os[e]? with
  | none => rw [hy] at he; cases he.2
  | some y => rw [hy] at he; exact ⟨e, y, he.1, hy, he.2⟩
theorem maskB_of {S : Nat → Bool} {q d e : Nat} {y : IOp} (h : earlyB qt os S q e = true) (hy : os[e]? = some y) (hd : y.dst = some d) : maskB qt os S q d = true :=
  List.any_eq_true.2 ⟨e, List.mem_range.2 (List.getElem?_eq_some_iff.1 hy).1, by simp [h, hy, hd]⟩

/-- A block that was laid ahead of its turn. -/
structure Early (os : List IOp) (hp : Nat → Heap) (vl : Nat → Value) (w0 : World) (S : Nat → Bool) (ι : Map) (h : Heap) (a : Act) (w : World) (e d : Nat) (cells : List Value) (l : Loc) : Prop where
  is : ∃ x, os[e]? = some x ∧ x.dst = some d
  push : hp (e + 1) = hp e ++ [some ⟨.fix, cells⟩]
  val : d < a.tmps.toList.length → ∀ ι' : Map, ι' (hp e).length = some l → VR ι' (vl e) (a.tmps.toList.getD d undef)
  fits : Fits ι w .fix cells l
  new : w0.heap.size ≤ l.b
  lt : l.b < w.heap.size
  apart : ∀ (B : Nat) (b : Blk) (l2 : Loc), h[B]? = some (some b) → ι B = some l2 → l2.b ≠ l.b
  nt : ∀ j y, e < j → S j = true → os[j]? = some y → y.dst ≠ some d

theorem Fits.step {K : Kind} {cells : List Value} {l : Loc} {ι1 : Map} {w1 : World} (F : Fits ι w K cells l) (s : Sub ι ι1) (hb : w1.heap[l.b]? = w.heap[l.b]?) : Fits ι1 w1 K cells l := by
  obtain ⟨f1, f2, f3, f4, c, e, f, f5, f6, f7, f8⟩ := F
  exact ⟨f1, f2, f3, f4, c, e, f, hb.trans f5, f6, f7, f8.mono fun _ _ h => h.mono s⟩

theorem Early.step {w0 : World} {S S' : Nat → Bool} {ι1 : Map} {h1 : Heap} {a1 : Act} {w1 : World} {e d : Nat} {cells : List Value} {l : Loc} (Y : Early os hp vl w0 S ι h a w e d cells l) (E : Ext ι h w ι1 h1 w1)
    (hlen : a1.tmps.toList.length = a.tmps.toList.length) (hat : a1.tmps.toList.getD d undef = a.tmps.toList.getD d undef) (hnt : ∀ j y, e < j → S' j = true → S j = false → os[j]? = some y → y.dst ≠ some d) :
    Early os hp vl w0 S' ι1 h1 a1 w1 e d cells l where
  is := Y.is
  push := Y.push
  val := fun hd => by rw [hat]; exact Y.val (by rw [← hlen]; exact hd)
  fits := Y.fits.step E.sub (E.frame _ Y.lt fun B blk l2 h1 _ h2 => Y.apart B blk l2 h1 h2)
  new := Y.new
  lt := Nat.lt_of_lt_of_le Y.lt E.size
  apart := fun B b l2 h1 h2 => by
    rcases E.imgR B b l2 h1 h2 with q | ⟨B0, b0, l0, q1, q2, q3⟩
    · have := Y.lt; omega
    · rw [← q3]; exact Y.apart B0 b0 l0 q1 q2
  nt := fun j y hj hS hy => by
    cases hs : S j with
    | true => exact Y.nt j y hj hs hy
    | false => exact hnt j y hj hS hs hy

/-- The state of a drawn region. -/
structure St (qt : List Nat) (os : List IOp) (fr : Nat → Fr) (hp : Nat → Heap) (vl : Nat → Value) (ι0 : Map) (h0 : Heap) (w0 : World) (S : Nat → Bool) (q : Nat) (ι : Map) (loc : Nat → Loc) (a : Act) (w : World) : Prop where
  frx : FrX ι (maskB qt os S q) (lastV os vl (off qt os S q) (fr 0) os.length) a.tmps.toList
  defers : a.defers = []
  hr : HR ι (hp q) w
  ext : Ext ι0 h0 w0 ι (hp q) w
  ear : ∀ e, earlyB qt os S q e = true → ∃ d cells, Early os hp vl w0 S ι (hp q) a w e d cells (loc e)
  sep : ∀ e e', earlyB qt os S q e = true → earlyB qt os S q e' = true → e ≠ e' → (loc e).b ≠ (loc e').b

/-- What is asked of the set, but that it stops. -/
structure Up0 (P : Program) (qt : List Nat) (ops : Array Oper) (os : List IOp) (S : Nat → Bool) (q : Nat) : Prop where
  closed : ∀ i o, ops.toList[i]? = some o → S i = true → ∀ d ∈ edgesOf o, S d = true
  lt : ∀ e x, os[e]? = some x → isEff qt x.k = true → e < q → S e = true
  le : q ≤ os.length

theorem off_next_quiet {S : Nat → Bool} {q : Nat} (h : effB qt os q = false) : off qt os S (q + 1) = off qt os S q := by
  funext i
  unfold off
  by_cases hi : i = q
  · subst hi; simp [h]
  · have : decide (i < q + 1) = decide (i < q) := by by_cases g : i < q <;> simp <;> omega
    rw [this]
theorem early_next_quiet {S : Nat → Bool} {q : Nat} (h : effB qt os q = false) : earlyB qt os S (q + 1) = earlyB qt os S q := by
  funext i
  unfold earlyB
  by_cases hi : i = q
  · subst hi; simp [h]
  · have : decide (q + 1 ≤ i) = decide (q ≤ i) := by by_cases g : q ≤ i <;> simp <;> omega
    rw [this]

theorem adv (R : Reg P qt Γ ops os B fr hp vl) {ι0 : Map} {h0 : Heap} {w0 : World} {S : Nat → Bool} {loc : Nat → Loc} {a : Act} {w : World} :
    ∀ (k q : Nat) (ι : Map), q + k = os.length → Up0 P qt ops os S q → St qt os fr hp vl ι0 h0 w0 S q ι loc a w → ∃ q' ι', Up P qt ops os S q' ∧ St qt os fr hp vl ι0 h0 w0 S q' ι' loc a w
  | 0, q, ι, hk, U, Z => ⟨q, ι, ⟨U.closed, U.lt, fun x hx => by have := (List.getElem?_eq_some_iff.1 hx).1; omega, U.le⟩, Z⟩
  | k + 1, q, ι, hk, U, Z => by
    have hx : os[q]? = some os[q] := List.getElem?_eq_getElem (by omega)
    cases he : isEff qt os[q].k with
    | false =>
      have hb : effB qt os q = false := by rw [effB_of hx]; exact he
      refine adv R k (q + 1) ι (by omega) ⟨U.closed, fun e x hx' hex hlt => ?_, by omega⟩ ?_
      · by_cases hq : e = q
        · subst hq; rw [hx] at hx'; cases hx'; rw [he] at hex; cases hex
        · exact U.lt e x hx' hex (by omega)
      · have e1 := off_next_quiet (S := S) hb
        have e2 := early_next_quiet (S := S) hb
        have e3 : maskB qt os S (q + 1) = maskB qt os S q := by unfold maskB; rw [e2]
        have e4 : hp (q + 1) = hp q := R.same hx he
        exact ⟨by rw [e1, e3]; exact Z.frx, Z.defers, by rw [e4]; exact Z.hr, by rw [e4]; exact Z.ext, by rw [e2, e4]; exact Z.ear, by rw [e2]; exact Z.sep⟩
    | true =>
      have hb : effB qt os q = true := by rw [effB_of hx]; exact he
      cases hS : S q with
      | false => exact ⟨q, ι, ⟨U.closed, U.lt, fun x hx' => by rw [hx] at hx'; cases hx'; exact ⟨he, hS⟩, U.le⟩, Z⟩
      | true =>
        have hq : earlyB qt os S q q = true := by unfold earlyB; simp [hS, hb]
        obtain ⟨d, cells, Y⟩ := Z.ear q hq
        obtain ⟨x, hx', hd⟩ := Y.is
        rw [hx] at hx'
        cases hx'
        have hdst : (os[q]?).bind (·.dst) = some d := by rw [hx]; exact hd
        let ι' := upd ι (hp q).length (loc q)
        have sub : Sub ι ι' := Z.hr.subU _
        have ear' : ∀ e, earlyB qt os S (q + 1) e = true → earlyB qt os S q e = true ∧ e ≠ q := by
          intro e h
          unfold earlyB at h ⊢
          simp only [Bool.and_eq_true, decide_eq_true_eq] at h ⊢
          exact ⟨⟨h.1, h.2.1, by omega⟩, by omega⟩
        have oq : off qt os S q q = false := by unfold off; simp [hb]
        have e1 : off qt os S (q + 1) = fun j => off qt os S q j || j == q := by
          funext j
          by_cases hj : j = q
          · subst hj; unfold off; simp [hS]
          · have hjb : (j == q) = false := by simp [hj]
            rw [hjb, Bool.or_false]
            unfold off
            have : decide (j < q + 1) = decide (j < q) := by by_cases g : j < q <;> simp <;> omega
            rw [this]
        have hframe : lastV os vl (off qt os S (q + 1)) (fr 0) os.length = put (lastV os vl (off qt os S q) (fr 0) os.length) (some d) (vl q) := by
          rw [e1, ← hd]
          refine last_add oq hx os.length (by omega) fun j hj1 hj2 hSj x hxd => ?_
          rw [hd] at hxd
          cases hxd
          have hy : os[j]? = some os[j] := List.getElem?_eq_getElem hj2
          rw [hy]
          exact Y.nt j _ hj1 (off_true hSj) hy
        have hlenF : (lastV os vl (off qt os S q) (fr 0) os.length).length = a.tmps.toList.length := Z.frx.len
        have hE : Ext ι0 h0 w0 ι' (hp (q + 1)) w := by
          rw [Y.push]
          refine ⟨Z.ext.sub.trans sub, Z.ext.size, Z.ext.frame, ?_, Z.ext.os, Z.ext.tape, Z.ext.output, ?_⟩
          · intro B blk l hB hr hl
            rw [get_push] at hB
            split at hB
            · rename_i hq2; subst hq2; rw [show ι' (hp q).length = some (loc q) from upd_same _ _] at hl; cases hl; exact .inl Y.new
            · rename_i hq2; rw [show ι' B = ι B from if_neg hq2] at hl; exact Z.ext.imgs B blk l hB hr hl
          · intro B blk l hB hl
            rw [get_push] at hB
            split at hB
            · rename_i hq2; subst hq2; rw [show ι' (hp q).length = some (loc q) from upd_same _ _] at hl; cases hl; exact .inl Y.new
            · rename_i hq2; rw [show ι' B = ι B from if_neg hq2] at hl; exact Z.ext.imgR B blk l hB hl
        refine adv R k (q + 1) ι' (by omega) ⟨U.closed, fun e x hx' hex hlt => ?_, by omega⟩ ⟨?_, Z.defers, ?_, hE, ?_, ?_⟩
        · by_cases hq2 : e = q
          · subst hq2; exact hS
          · exact U.lt e x hx' hex (by omega)
        · rw [hframe]
          refine ⟨by rw [put_length]; exact hlenF, fun d' hd' => ?_⟩
          by_cases hdd : d' = d
          · subst hdd
            rw [put_at, hlenF]
            split
            · rename_i hlt
              exact Y.val hlt ι' (upd_same _ _)
            · rename_i hge
              rw [show a.tmps.toList.getD d' undef = undef by unfold List.getD; rw [List.getElem?_eq_none (Nat.le_of_not_lt hge)]; rfl]
              exact VR.undef ι'
          · rw [put_getD (by intro q; cases q; exact hdd rfl)]
            refine (Z.frx.at_ d' ?_).mono sub
            cases hm : maskB qt os S q d' with
            | false => rfl
            | true =>
              obtain ⟨e, y, h1, h2, h3⟩ := maskB_true hm
              by_cases heq : e = q
              · subst heq
                rw [hx] at h2
                cases h2
                rw [hd] at h3
                cases h3
                exact absurd rfl hdd
              · have : earlyB qt os S (q + 1) e = true := by
                  unfold earlyB at h1 ⊢
                  simp only [Bool.and_eq_true, decide_eq_true_eq] at h1 ⊢
                  exact ⟨h1.1, h1.2.1, by omega⟩
                rw [maskB_of this h2 h3] at hd'
                cases hd'
        · rw [Y.push]
          exact Z.hr.add (fun B blk l0 h1 h2 => ⟨Y.apart B blk l0 h1 h2, rfl⟩) (Y.fits.step (w1 := w) sub rfl)
        · intro e h
          obtain ⟨h1, h2⟩ := ear' e h
          obtain ⟨d2, c2, Y2⟩ := Z.ear e h1
          refine ⟨d2, c2, ⟨Y2.is, Y2.push, Y2.val, Y2.fits.step sub rfl, Y2.new, Y2.lt, ?_, Y2.nt⟩⟩
          intro B b l2 hB hl
          rw [Y.push, get_push] at hB
          split at hB
          · rename_i hq2; subst hq2; rw [show ι' (hp q).length = some (loc q) from upd_same _ _] at hl; cases hl
            exact Z.sep q e hq h1 (Ne.symm h2)
          · rename_i hq2; rw [show ι' B = ι B from if_neg hq2] at hl; exact Y2.apart B b l2 hB hl
        · intro e e' h h' hne
          exact Z.sep e e' (ear' e h).1 (ear' e' h').1 hne


/-- One comes up: the set behind it. -/
theorem Up.add (R : Reg P qt Γ ops os B fr hp vl) {S : Nat → Bool} {q : Nat} (U : Up P qt ops os S q) {i : Nat} {o : Oper} (N : Next ops S i o) :
    ∀ j oj, ops.toList[j]? = some oj → (S j || j == i) = true → ∀ d ∈ edgesOf oj, (S d || d == i) = true := by
  intro j oj hoj hS d hd
  simp only [Bool.or_eq_true] at hS ⊢
  rcases hS with hS | hS
  · exact .inl (U.closed j oj hoj hS d hd)
  · have : j = i := by simpa using hS
    subst this
    rw [N.is] at hoj
    cases hoj
    exact .inl (N.edges d hd)

theorem opnd_masked {D : Nat → Bool} {x : Operand} (h : ∀ d, x = .tmp d → D d = false) : (⟨⟨mask D a.tmps.toList⟩, []⟩ : Act).eval x = a.eval x := by
  cases x with
  | tmp d =>
    simp only [Act.eval, getD_toList]
    rw [mask_getD, h d rfl]
    rfl
  | _ => rfl

theorem any_sim (hΓ : EnvOk P Γ) (R : Reg P qt Γ ops os B fr hp vl) {Q : Exit → Act → World → Prop} {ι0 : Map} {h0 : Heap} {w0 : World}
    (K : ∀ ι' a' w', Rel ι' (fr os.length) (hp os.length) a' w' → Ext ι0 h0 w0 ι' (hp os.length) w' → Q .normal a' w') :
    ∀ (fuel : Nat) (listed : Array Bool) (a : Act) (w : World) (ι : Map) (loc : Nat → Loc) (q : Nat), listed.size = os.length → (List.range os.length).countP (fun i => !sel listed i) = fuel → Up P qt ops os (sel listed) q →
    St qt os fr hp vl ι0 h0 w0 (sel listed) q ι loc a w → wpAny P .any ops Q fuel listed a w := by
  have hsz : ops.size = os.length := by rw [← R.len]; simp
  have getop : ∀ i, ops[i]? = ops.toList[i]? := fun i => Array.getElem?_toList.symm
  intro fuel
  induction fuel with
  | zero =>
    intro listed a w ι loc q hl hc U Z
    have all : ∀ i, i < os.length → sel listed i = true := by
      intro i hi
      cases hs : sel listed i with
      | true => rfl
      | false =>
        have : 0 < (List.range os.length).countP (fun i => !sel listed i) := List.countP_pos_iff.2 ⟨i, List.mem_range.2 hi, by simp [hs]⟩
        omega
    have hq : q = os.length := by
      have := U.le
      rcases Nat.lt_or_ge q os.length with h1 | h1
      · have := (U.stop _ (List.getElem?_eq_getElem h1)).2
        rw [all q h1] at this
        cases this
      · omega
    have noearly : ∀ e, earlyB qt os (sel listed) q e = false := by
      intro e
      cases h : earlyB qt os (sel listed) q e with
      | false => rfl
      | true =>
        obtain ⟨_, h2, x, hx, _⟩ := early_of h
        have := (List.getElem?_eq_some_iff.1 hx).1
        omega
    refine ⟨?_, ?_⟩
    · rw [List.eq_nil_iff_forall_not_mem]
      intro i hi
      obtain ⟨h1, o, ho, _⟩ := mem_ready.1 hi
      have hil : i < os.length := by rw [← hsz]; exact (Array.getElem?_eq_some_iff.1 ho).1
      have := all i hil
      unfold sel at this
      have h2 : listed.getD i false = listed.getD i true := by
        have : i < listed.size := by omega
        simp [Array.getD, this]
      rw [h2, h1] at this
      cases this
    · have h1 : lastV os vl (off qt os (sel listed) q) (fr 0) os.length = fr os.length := by
        rw [← walk_fr R.walk os.length (Nat.le_refl _)]
        have : ∀ m, m ≤ os.length → lastV os vl (off qt os (sel listed) q) (fr 0) m = lastV os vl (fun _ => true) (fr 0) m := by
          intro m
          induction m with
          | zero => intro _; rfl
          | succ m ih =>
            intro hm
            have : off qt os (sel listed) q m = true := by
              rcases off_or (qt := qt) (os := os) (q := q) (all m (by omega)) with h | h
              · exact h
              · rw [noearly] at h; cases h
            simp only [lastV, ih (by omega), this, if_true]
        exact this _ (Nat.le_refl _)
      have hf := Z.frx
      rw [h1] at hf
      subst hq
      refine K ι a w ⟨F2.of_getD (x := undef) (y := undef) hf.len fun d => hf.at_ d ?_, Z.defers, Z.hr⟩ Z.ext
      cases hm : maskB qt os (sel listed) os.length d with
      | false => rfl
      | true => obtain ⟨e, y, h2, _⟩ := maskB_true hm; rw [noearly] at h2; cases h2
  | succ fuel ih =>
    intro listed a w ι loc q hl hc U Z
    refine ⟨fun hr => ?_, fun i hi => ?_⟩
    · -- something is ready
      exfalso
      have hex : ∃ i, i < os.length ∧ sel listed i = false := by
        have : 0 < (List.range os.length).countP (fun i => !sel listed i) := by omega
        obtain ⟨i, hi, hs⟩ := List.countP_pos_iff.1 this
        exact ⟨i, List.mem_range.1 hi, by simpa using hs⟩
      obtain ⟨i0, hi0, hs0⟩ := hex
      obtain ⟨m, ⟨hm1, hm2⟩, hm3⟩ := least (p := fun i => i < os.length ∧ sel listed i = false) i0 ⟨hi0, hs0⟩
      have hmo : m < ops.toList.length := by rw [R.len]; exact hm1
      have hom : ops.toList[m]? = some ops.toList[m] := List.getElem?_eq_getElem hmo
      obtain ⟨C, hC, _, hspec⟩ := befs_spec ops.toList [] B R.bf
      have : m ∈ Region.ready .any ops listed := by
        rw [mem_ready]
        refine ⟨?_, _, (getop m).trans hom, fun e he hb => ?_⟩
        · have hms : m < listed.size := by omega
          unfold sel at hm2
          simp [Array.getD, hms] at hm2 ⊢
          exact hm2
        · have hd := (hspec m _ hom).1 e.on (edge_mem.2 ⟨e, he, hb, rfl⟩)
          simp at hd
          have hdl : e.on < os.length := by omega
          cases hs : sel listed e.on with
          | true => exact hs
          | false => have := hm3 e.on ⟨hdl, hs⟩; omega
      rw [hr] at this
      cases this
    · obtain ⟨h1, o, ho, hed⟩ := mem_ready.1 hi
      have hol : ops.toList[i]? = some o := (getop i).symm.trans ho
      have hil : i < os.length := by rw [← R.len]; exact (List.getElem?_eq_some_iff.1 hol).1
      have hils : i < listed.size := by omega
      have hnot : sel listed i = false := by
        unfold sel
        simp [Array.getD, hils] at h1 ⊢
        exact h1
      have N : Next ops (sel listed) i o := ⟨hol, hnot, fun d hd => by obtain ⟨e, he, hb, rfl⟩ := edge_mem.1 hd; exact hed e he hb⟩
      obtain ⟨x, hx, hst⟩ := (stOps_get _ _ R.st).2 i o hol
      obtain ⟨hdst, hk, hg⟩ : x.dst = o.dst ∧ x.k = stK P o.op ∧ stG ops o.guard = some x.g := by
        unfold stOp at hst
        split at hst
        · rename_i g hg; cases hst; exact ⟨rfl, rfl, hg⟩
        · cases hst
      -- it looks at no place that is masked
      have untouched : ∀ d, maskB qt os (sel listed) q d = true → touches d o x = false := by
        intro d hd
        obtain ⟨e, y, h1, h2, h3⟩ := maskB_true hd
        exact R.notouch U h1 N hx h2 h3
      have rdok : ∀ d ∈ reads x, maskB qt os (sel listed) q d = false := by
        intro d hd
        cases hm : maskB qt os (sel listed) q d with
        | false => rfl
        | true =>
          have := untouched d hm
          unfold touches at this
          have hc : (reads x).contains d = true := by simpa using hd
          rw [hc] at this
          simp at this
      have opok : ∀ y ∈ o.op.operands, ∀ d, y = .tmp d → maskB qt os (sel listed) q d = false := by
        intro y hy d hyd
        cases hm : maskB qt os (sel listed) q d with
        | false => rfl
        | true =>
          have := untouched d hm
          unfold touches at this
          have hc : o.op.operands.toList.any (fun y => tmpOf y == some d) = true := List.any_eq_true.2 ⟨y, by simpa using hy, by subst hyd; simp [tmpOf]⟩
          rw [hc] at this
          simp at this
      have dstok : ∀ d, x.dst = some d → maskB qt os (sel listed) q d = false := by
        intro d hd
        cases hm : maskB qt os (sel listed) q d with
        | false => rfl
        | true =>
          have := untouched d hm
          unfold touches at this
          rw [hd] at this
          simp at this
      have hfr0 : ∀ d ∈ reads x, (mask (maskB qt os (sel listed) q) (lastV os vl (off qt os (sel listed) q) (fr 0) os.length)).getD d undef = (fr i).getD d undef := by
        intro d hd
        rw [mask_getD, rdok d hd]
        exact R.frame U N hx hd
      have hfr := ev_of (x := x) hfr0
      have hF2 := Z.frx.masked
      have hwant : Region.wanted o (yielded ops a.tmps) = want (fr i) x.g := by
        rw [← hfr.2]
        refine want_at (ι := ι) (fun d b hgd => ?_) hg
        have hdr : d ∈ reads x := by unfold reads; rw [hgd]; simp
        rw [mask_getD, rdok d hdr]
        exact Z.frx.at_ d (rdok d hdr)
      -- behind it
      have hsel := sel_set (listed := listed) (i := i) hils
      have hcount : (List.range os.length).countP (fun j => !sel (listed.setIfInBounds i true) j) = fuel := by
        rw [hsel]
        show (List.range os.length).countP (fun j => !(sel listed j || j == i)) = fuel
        have : ∀ (l : List Nat), l.Nodup → i ∈ l → l.countP (fun j => !sel listed j) = l.countP (fun j => !(sel listed j || j == i)) + 1 := by
          intro l
          induction l with
          | nil => intro _ hm; cases hm
          | cons y l ihl =>
            intro hnd hm
            rw [List.nodup_cons] at hnd
            by_cases hyi : y = i
            · subst hyi
              have hsame : l.countP (fun j => !(sel listed j || j == y)) = l.countP (fun j => !sel listed j) := by
                refine List.countP_congr fun j hj => ?_
                have : (j == y) = false := by simp; intro q; subst q; exact hnd.1 hj
                rw [this, Bool.or_false]
              simp only [List.countP_cons, hsame, hnot, BEq.rfl, Bool.or_true, Bool.not_true, Bool.not_false, if_true, Bool.false_eq_true, if_false, Nat.add_zero]
            · have hml : i ∈ l := by
                rcases List.mem_cons.1 hm with q | q
                · exact absurd q.symm hyi
                · exact q
              have hb : (y == i) = false := by simp [hyi]
              simp only [List.countP_cons, hb, Bool.or_false, ihl hnd.2 hml]
              omega
        have := this (List.range os.length) List.nodup_range (List.mem_range.2 hil)
        omega
      -- with one that comes in its turn, or is quiet: 'q1' is where the turns then stand
      have go : ∀ (q1 : Nat) (v' : Value) (w1 : World) (ι1 : Map),
          (q1 = q ∧ isEff qt x.k = false ∨ q1 = i + 1 ∧ i = q ∧ isEff qt x.k = true) →
          VR ι1 (vl i) v' → HR ι1 (hp q1) w1 → Ext ι (hp q) w ι1 (hp q1) w1 → wpAny P .any ops Q fuel (listed.setIfInBounds i true) (a.put o.dst v') w1 := by
        intro q1 v' w1 ι1 hq1 hv H1 E1
        have hiq : i < q1 ∨ isEff qt x.k = false := by rcases hq1 with ⟨_, h⟩ | ⟨h, _, _⟩; exact .inr h; exact .inl (by omega)
        have hqq : q ≤ q1 ∧ q1 ≤ os.length := by have := U.le; rcases hq1 with ⟨h, _⟩ | ⟨h, h2, _⟩ <;> omega
        -- those that are ahead of their turn are the same
        have ee : ∀ e, earlyB qt os (fun j => sel listed j || j == i) q1 e = earlyB qt os (sel listed) q e := by
          intro e
          unfold earlyB
          dsimp only
          by_cases hei : e = i
          · subst hei
            rw [hnot, effB_of hx]
            rcases hiq with h | h
            · have : ¬ q1 ≤ e := by omega
              simp [this]
            · simp [h]
          · have hb : (e == i) = false := by simp [hei]
            rw [hb, Bool.or_false]
            have : (effB qt os e && decide (q1 ≤ e)) = (effB qt os e && decide (q ≤ e)) := by
              rcases hq1 with ⟨h, _⟩ | ⟨h, h2, _⟩
              · rw [h]
              · have : decide (q1 ≤ e) = decide (q ≤ e) := by by_cases g : q ≤ e <;> simp <;> omega
                rw [this]
            rw [this]
        have em : maskB qt os (fun j => sel listed j || j == i) q1 = maskB qt os (sel listed) q := by
          unfold maskB
          have : earlyB qt os (fun j => sel listed j || j == i) q1 = earlyB qt os (sel listed) q := funext ee
          rw [this]
        have eo : off qt os (fun j => sel listed j || j == i) q1 = fun j => off qt os (sel listed) q j || j == i := by
          funext j
          unfold off
          dsimp only
          by_cases hji : j = i
          · subst hji
            rw [hnot, effB_of hx]
            rcases hiq with h | h <;> simp [h]
          · have hb : (j == i) = false := by simp [hji]
            rw [hb, Bool.or_false, Bool.or_false]
            have : (!effB qt os j || decide (j < q1)) = (!effB qt os j || decide (j < q)) := by
              rcases hq1 with ⟨h, _⟩ | ⟨h, h2, _⟩
              · rw [h]
              · have : decide (j < q1) = decide (j < q) := by by_cases g : j < q <;> simp <;> omega
                rw [this]
            rw [this]
        have hframe : lastV os vl (off qt os (fun j => sel listed j || j == i) q1) (fr 0) os.length = put (lastV os vl (off qt os (sel listed) q) (fr 0) os.length) o.dst (vl i) := by
          rw [eo, ← hdst]
          refine last_add (off_false hnot) hx os.length hil fun j hj1 hj2 hS d hd => ?_
          intro hdj
          have hy : os[j]? = some os[j] := List.getElem?_eq_getElem hj2
          rw [hy] at hdj
          simp only [Option.bind_some] at hdj
          have hp0 := pair_of R.chk hx hy hj1
          unfold pairOk at hp0
          have hcl : clash x os[j] = true := by unfold clash; rw [hd]; simp [hdj]
          simp only [hcl, Bool.not_true, Bool.false_and, Bool.or_false] at hp0
          have := R.later U N hy hp0
          rw [off_true hS] at this
          cases this
        have alen : (a.put o.dst v').tmps.toList.length = a.tmps.toList.length := by rw [act_put, put_length]
        have Z1 : St qt os fr hp vl ι0 h0 w0 (fun j => sel listed j || j == i) q1 ι1 loc (a.put o.dst v') w1 := by
          refine ⟨?_, by rw [put_defers]; exact Z.defers, H1, Z.ext.trans E1, fun e he => ?_, fun e e' he he' hne => ?_⟩
          · rw [em, hframe, act_put]
            exact (Z.frx.mono E1.sub).put hv
          · rw [ee] at he
            obtain ⟨d, cells, Y⟩ := Z.ear e he
            obtain ⟨y, hy, hyd⟩ := Y.is
            refine ⟨d, cells, Y.step E1 alen ?_ fun j z hj hS hs hz => ?_⟩
            · rw [act_put, ← hdst, put_getD]
              intro hxd
              have := dstok d hxd
              rw [maskB_of he hy hyd] at this
              cases this
            · have hji : j = i := by
                simp only [hs, Bool.false_or, beq_iff_eq] at hS
                exact hS
              subst hji
              rw [hx] at hz
              cases hz
              intro hxd
              have := dstok d hxd
              rw [maskB_of he hy hyd] at this
              cases this
          · rw [ee] at he he'
            exact Z.sep e e' he he' hne
        have U1 : Up0 P qt ops os (fun j => sel listed j || j == i) q1 := by
          refine ⟨Up.add R U N, fun e y hy hey hlt => ?_, hqq.2⟩
          rcases Nat.lt_or_ge e q with h | h
          · simp [U.lt e y hy hey h]
          · rcases hq1 with ⟨h2, _⟩ | ⟨h2, h3, _⟩
            · omega
            · have : e = i := by omega
              subst this
              simp
        obtain ⟨q2, ι2, U2, Z2⟩ := adv R (os.length - q1) q1 ι1 (by omega) U1 Z1
        rw [← hsel] at U2 Z2
        exact ih _ _ w1 ι2 loc q2 (by simp [hl]) hcount U2 Z2
      -- with one that comes ahead of its turn
      have goE : ∀ (cells : List Value) (m : Nat) (v2 v' : Value) (w1 : World) (ι1 : Map), q < i → isEff qt x.k = true → looseOk qt ops.toList os B i = true → sel listed q = false → hp (i + 1) = hp i ++ [some ⟨.fix, cells⟩] →
          Names (hp i).length (vl i) (hp q).length v2 → cells.all (belowC (hp q).length) = true → VR ι1 v2 v' → HR ι1 (hp q ++ [some ⟨.fix, cells⟩]) w1 → Ext ι (hp q) w ι1 (hp q ++ [some ⟨.fix, cells⟩]) w1 →
          wpAny P .any ops Q fuel (listed.setIfInBounds i true) (a.put o.dst v') w1 := by
        intro cells m v2 v' w1 ι1 hqi he hlo hSq hpush hnm hbel hv H1 E1
        have hgetn : (hp q ++ [some (⟨.fix, cells⟩ : Blk)])[(hp q).length]? = some (some ⟨.fix, cells⟩) := by simp
        obtain ⟨l, e1, f1, f2, f3, f4, c, e2, f, f5, f6, f7, f8⟩ := H1.live _ _ hgetn
        have htake : (hp q ++ [some (⟨.fix, cells⟩ : Blk)]).take (hp q).length = hp q := by simp
        have H2 := H1.cut (hp q).length (by simp) (by rw [htake]; exact Z.hr.allBelow)
        have E2 := Ext.cut Z.hr E1
        rw [htake] at H2 E2
        have apart1 : ∀ (B0 : Nat) (b : Blk) (l2 : Loc), (hp q)[B0]? = some (some b) → ι1 B0 = some l2 → l2.b ≠ l.b := by
          intro B0 b l2 hB hl2
          have hlt : B0 < (hp q).length := (List.getElem?_eq_some_iff.1 hB).1
          have hB' : (hp q ++ [some (⟨.fix, cells⟩ : Blk)])[B0]? = some (some b) := by rw [List.getElem?_append_left hlt]; exact hB
          exact fun h => H1.apart _ _ _ _ _ _ hgetn hB' (by omega) (by simp) e1 hl2 h.symm
        have hfresh : w.heap.size ≤ l.b := by
          rcases E1.imgR _ _ _ hgetn e1 with h | ⟨B0, b0, l0, h1, h2, h3⟩
          · exact h
          · exact absurd h3 (apart1 B0 b0 l0 h1 (E1.sub _ _ h2))
        have hltw : l.b < w1.heap.size := H1.lt hgetn e1
        obtain ⟨_, _, _, d, hxd, _⟩ := loose_of hlo hx
        -- the sets
        have ee : ∀ e, earlyB qt os (fun j => sel listed j || j == i) q e = (earlyB qt os (sel listed) q e || e == i) := by
          intro e
          unfold earlyB
          dsimp only
          by_cases hei : e = i
          · subst hei
            rw [effB_of hx, he]
            simp; omega
          · have hb : (e == i) = false := by simp [hei]
            rw [hb, Bool.or_false, Bool.or_false]
        have eo : off qt os (fun j => sel listed j || j == i) q = off qt os (sel listed) q := by
          funext j
          unfold off
          dsimp only
          by_cases hji : j = i
          · subst hji
            rw [effB_of hx, he, hnot]
            have : ¬ j < q := by omega
            simp [this]
          · have hb : (j == i) = false := by simp [hji]
            rw [hb, Bool.or_false]
        have em : ∀ d', maskB qt os (fun j => sel listed j || j == i) q d' = false → maskB qt os (sel listed) q d' = false ∧ x.dst ≠ some d' := by
          intro d' h
          constructor
          · cases hm : maskB qt os (sel listed) q d' with
            | false => rfl
            | true =>
              obtain ⟨e, y, h1, h2, h3⟩ := maskB_true hm
              rw [maskB_of (by rw [ee, h1]; rfl) h2 h3] at h
              cases h
          · intro h3
            rw [maskB_of (by rw [ee]; simp) hx h3] at h
            cases h
        have alen : (a.put o.dst v').tmps.toList.length = a.tmps.toList.length := by rw [act_put, put_length]
        have Z1 : St qt os fr hp vl ι0 h0 w0 (fun j => sel listed j || j == i) q (cutM ι1 (hp q).length) (fun j => if j = i then l else loc j) (a.put o.dst v') w1 := by
          refine ⟨⟨?_, fun d' hd' => ?_⟩, by rw [put_defers]; exact Z.defers, H2, Z.ext.trans E2, fun e hee => ?_, fun e e' hee hee' hne => ?_⟩
          · rw [eo, alen]; exact Z.frx.len
          · obtain ⟨m1, m2⟩ := em d' hd'
            rw [eo, act_put, ← hdst, put_getD m2]
            exact (Z.frx.at_ d' m1).mono E2.sub
          · rw [ee] at hee
            by_cases hei : e = i
            · subst hei
              refine ⟨d, cells, ⟨⟨x, hx, hxd⟩, hpush, ?_, ?_, ?_, ?_, ?_, ?_⟩⟩
              · intro hlt ι' hι'
                rw [if_pos rfl] at hι'
                rw [alen] at hlt
                rw [act_put, ← hdst, hxd, put_at, if_pos hlt]
                exact hnm.vr hv e1 hι'
              · rw [if_pos rfl]
                exact ⟨f1, f2, f3, f4, c, e2, f, f5, f6, f7, f8.cut (fun _ _ h q => h.cut q) hbel⟩
              · rw [if_pos rfl]; exact Nat.le_trans Z.ext.size hfresh
              · rw [if_pos rfl]; exact hltw
              · intro B0 b l2 hB hl2
                rw [if_pos rfl]
                have hlt : B0 < (hp q).length := (List.getElem?_eq_some_iff.1 hB).1
                simp only [cutM, hlt, if_true] at hl2
                exact apart1 B0 b l2 hB hl2
              · intro j y hj hS hy hyd
                have hji : (j == e) = false := by simp; omega
                rw [hji, Bool.or_false] at hS
                have hp0 := pair_of R.chk hx hy hj
                unfold pairOk at hp0
                have hcl : clash x y = true := by unfold clash; rw [hxd]; simp [hyd]
                simp only [hcl, Bool.not_true, Bool.false_and, Bool.or_false] at hp0
                have := R.later U N hy hp0
                rw [hS] at this
                cases this
            · have heb : (e == i) = false := by simp [hei]
              rw [heb, Bool.or_false] at hee
              obtain ⟨d2, c2, Y⟩ := Z.ear e hee
              obtain ⟨y, hy, hyd⟩ := Y.is
              refine ⟨d2, c2, ?_⟩
              rw [if_neg hei]
              refine Y.step E2 alen ?_ fun j z hj hS hs hz => ?_
              · rw [act_put, ← hdst, put_getD]
                intro hxd2
                have := dstok d2 hxd2
                rw [maskB_of hee hy hyd] at this
                cases this
              · have hji : j = i := by
                  simp only [hs, Bool.false_or, beq_iff_eq] at hS
                  exact hS
                subst hji
                rw [hx] at hz
                cases hz
                intro hxd2
                have := dstok d2 hxd2
                rw [maskB_of hee hy hyd] at this
                cases this
          · rw [ee] at hee hee'
            have old : ∀ e, e ≠ i → (earlyB qt os (sel listed) q e || e == i) = true → earlyB qt os (sel listed) q e = true ∧ (loc e).b < w.heap.size := by
              intro e hei h
              have heb : (e == i) = false := by simp [hei]
              rw [heb, Bool.or_false] at h
              obtain ⟨d2, c2, Y⟩ := Z.ear e h
              exact ⟨h, Y.lt⟩
            by_cases h1 : e = i
            · by_cases h2 : e' = i
              · omega
              · obtain ⟨_, g⟩ := old e' h2 hee'
                rw [if_pos h1, if_neg h2]
                omega
            · by_cases h2 : e' = i
              · obtain ⟨_, g⟩ := old e h1 hee
                rw [if_neg h1, if_pos h2]
                omega
              · rw [if_neg h1, if_neg h2]
                exact Z.sep e e' (old e h1 hee).1 (old e' h2 hee').1 hne
        have U1 : Up P qt ops os (sel (listed.setIfInBounds i true)) q := by
          rw [hsel]
          refine ⟨Up.add R U N, fun e y hy hey hlt => by simp [U.lt e y hy hey hlt], fun y hy => ⟨(U.stop y hy).1, ?_⟩, U.le⟩
          have : (q == i) = false := by simp; omega
          rw [hSq, this]
          rfl
        rw [← hsel] at Z1
        exact ih _ _ w1 _ _ q (by simp [hl]) hcount U1 Z1
      unfold wpOp
      simp only [ho]
      rw [hwant]
      cases hw : want (fr i) x.g with
      | false =>
        simp only [Bool.false_eq_true, if_false]
        obtain ⟨n1, n2⟩ := R.walk.no i x hx hw
        cases he : isEff qt x.k with
        | false => exact go q undef w ι (.inl ⟨rfl, he⟩) (by rw [n1]; exact VR.undef ι) Z.hr (Ext.refl _ _ _)
        | true =>
          rcases R.effAt U N hx he with hiq | ⟨_, hlo, _⟩
          · subst hiq
            exact go (i + 1) undef w ι (.inr ⟨rfl, rfl, he⟩) (by rw [n1]; exact VR.undef ι) (by rw [n2]; exact Z.hr) (by rw [n2]; exact Ext.refl _ _ _)
          · obtain ⟨_, hgn, _⟩ := loose_of hlo hx
            rw [hgn] at hw
            cases hw
      | true =>
        simp only [if_true]
        refine .inl ?_
        have hcongr : opA Γ x.k (fr i) = opA Γ x.k (mask (maskB qt os (sel listed) q) (lastV os vl (off qt os (sel listed) q) (fr 0) os.length)) := by
          funext h
          exact (opA_congr hfr.1).symm
        -- the operation itself
        have run : ∀ (v : Value) (h' : Heap), opA Γ x.k (fr i) (hp q) = some (v, h') → (∀ v' w1 ι1, VR ι1 v v' → HR ι1 h' w1 → Ext ι (hp q) w ι1 h' w1 → wpAny P .any ops Q fuel (listed.setIfInBounds i true) (a.put o.dst v') w1) →
            o.wp P a w (wpAny P .any ops Q fuel (listed.setIfInBounds i true)) Q := by
          intro v h' hev kk
          rw [hcongr, hk] at hev
          have hsel0 : ∀ cs b, o.op ≠ .select cs b := by
            intro cs b hop
            rw [hop] at hev
            simp only [stK, opA, pureA] at hev
            cases hev
          have hexec : execOp a.eval o = execOp (⟨⟨mask (maskB qt os (sel listed) q) a.tmps.toList⟩, []⟩ : Act).eval o :=
            execOp_congr o hsel0 fun y hy => (opnd_masked (opok y hy)).symm
          have hop := op_sim hΓ Z.hr (a := ⟨⟨mask (maskB qt os (sel listed) q) a.tmps.toList⟩, []⟩) hF2 hev
          unfold Oper.wp
          rw [hexec]
          cases hop with
          | eff he =>
            obtain ⟨w1, ι1, hrun, H1, E1⟩ := he
            rcases hrun with ⟨v', hrun, hv'⟩ | ⟨hrun, hvu⟩
            · rw [hrun]; exact kk v' w1 ι1 hv' H1 E1
            · rw [hrun]; exact kk undef w1 ι1 (by rw [hvu]; exact VR.undef ι1) H1 E1
          | call f args' hrun hcl =>
            rw [hrun]
            exact hcl.mono fun e w1 ⟨v', ι1, he, hv', H1, E1⟩ => by subst he; exact kk v' w1 ι1 hv' H1 E1
        cases he : isEff qt x.k with
        | false => exact run _ _ (R.eval U N hx hw he) fun v' w1 ι1 h1 h2 h3 => go q v' w1 ι1 (.inl ⟨rfl, he⟩) h1 h2 h3
        | true =>
          have hyes := R.walk.yes i x hx hw
          rcases R.effAt U N hx he with hiq | ⟨hqi, hlo, hSq⟩
          · subst hiq
            exact run _ _ hyes fun v' w1 ι1 h1 h2 h3 => go (i + 1) v' w1 ι1 (.inr ⟨rfl, rfl, he⟩) h1 h2 h3
          · obtain ⟨hal, _, ⟨hzo, hzp⟩, _⟩ := loose_of hlo hx
            obtain ⟨cells, hc1, hc2, hc3⟩ := alloc_any hal hzo hyes
            obtain ⟨v2, hv2, hnm⟩ := hc2 (hp q)
            refine run _ _ hv2 fun v' w1 ι1 h1 h2 h3 => goE cells 0 v2 v' w1 ι1 hqi he hlo hSq hc1 hnm (hc3 _ fun y hy hn => ?_) h1 h2 h3
            rw [← hfr.1 y hy] at hn ⊢
            have : VR ι (ev (mask (maskB qt os (sel listed) q) (lastV os vl (off qt os (sel listed) q) (fr 0) os.length)) y) ((⟨⟨mask (maskB qt os (sel listed) q) a.tmps.toList⟩, []⟩ : Act).eval y) := ev_sim hF2 (List.all_eq_true.1 hzp y hy)
            exact this.cells_below Z.hr.dom hn

/-- What the cross pairs ask. -/
def CrossOk (Γ : Env) (os : List IOp) (X : List (Nat × Nat)) (t : Fr) (h : Heap) : Prop :=
  ∀ p ∈ X, ∀ x ti hi tj hj, os[p.1]? = some x → runR Γ (os.take p.1) t h = some (ti, hi) → runR Γ (os.take (if p.1 < p.2 then p.2 + 1 else p.2)) t h = some (tj, hj) → want ti x.g = true →
    ∀ v h1, opA Γ x.k ti hi = some (v, h1) → ∃ h2, opA Γ x.k ti hj = some (v, h2)

theorem dreg_sim (hm : P.follows .mixedOrders = true) (hΓ : EnvOk P Γ) (hq : QuietEnv qt Γ) {X : List (Nat × Nat)} (hs : stD P qt ops = some (os, X)) {t' : Fr} {h' : Heap} (hr : runR Γ os t h = some (t', h')) (hx : CrossOk Γ os X t h)
    (Re : Rel ι t h a w) {id : Nat} {Q : Exit → Act → World → Prop} (K : ∀ ι' a' w', Rel ι' t' h' a' w' → Ext ι h w ι' h' w' → Q .normal a' w') : (Code.region id ops true).wp P Q a w := by
  unfold stD at hs
  split at hs
  · rename_i os0 B hst hB
    split at hs
    · rename_i hchk
      cases hs
      obtain ⟨fr, hp, vl, f0, p0, fn, pn, W, pre⟩ := walk_of os t h t' h' hr
      subst f0
      subst p0
      have R : Reg P qt Γ ops os B fr hp vl := by
        refine ⟨hst, hB, hchk, hq, W, fun i j x hxi hcr hw => ?_⟩
        have hil := (List.getElem?_eq_some_iff.1 hxi).1
        have hjl : j < os.length := by
          unfold crossP at hcr
          rw [hxi] at hcr
          cases hy : os[j]? with
          | none => rw [hy] at hcr; cases hcr
          | some y => exact (List.getElem?_eq_some_iff.1 hy).1
        have hmem : (i, j) ∈ crossOf qt os B := by
          unfold crossOf
          exact List.mem_flatMap.2 ⟨i, List.mem_range.2 hil, List.mem_map.2 ⟨j, List.mem_filter.2 ⟨List.mem_range.2 hjl, hcr⟩, rfl⟩⟩
        exact hx (i, j) hmem x _ _ _ _ hxi (pre i (by omega)) (pre _ (by dsimp only; split <;> omega)) hw (vl i) _ (W.yes i x hxi hw)
      refine wp_region_any hm ?_
      have hsz : ops.size = os.length := by rw [← R.len]; simp
      have hnone : ∀ i, sel (Array.replicate ops.size false) i = false := by
        intro i
        unfold sel
        by_cases hi : i < ops.size
        · simp [Array.getD, hi]
        · simp [Array.getD, hi]
      have hnf : sel (Array.replicate ops.size false) = fun _ => false := funext hnone
      have hl0 : ∀ m, lastV os vl (off qt os (fun _ => false) 0) (fr 0) m = fr 0 := by
        intro m
        induction m with
        | zero => rfl
        | succ m ih => simp only [lastV, off_false (qt := qt) (os := os) (q := 0) (S := fun _ => false) rfl, Bool.false_eq_true, if_false, ih]
      have hne : ∀ e, earlyB qt os (fun _ => false) 0 e = false := fun e => rfl
      have E0 : Ext ι (hp 0) w ι (hp 0) { w with drawn := w.drawn + 1 } := Ext.drawn rfl rfl rfl rfl
      have U0 : Up0 P qt ops os (fun _ => false) 0 := ⟨fun i o _ hS => (by cases hS), fun e x _ _ h => (by omega), Nat.zero_le _⟩
      have Z0 : St qt os fr hp vl ι (hp 0) w (fun _ => false) 0 ι (fun _ => ⟨0, 0, 0, 0, 0⟩) a { w with drawn := w.drawn + 1 } := by
        refine ⟨?_, Re.defers, Re.hr.drawn rfl, E0, fun e h => (by rw [hne] at h; cases h), fun e e' h => (by rw [hne] at h; cases h)⟩
        rw [hl0]
        exact ⟨Re.fr.length, fun d _ => Re.fr.getD d _ _ (VR.undef ι)⟩
      obtain ⟨q, ι', U1, Z1⟩ := adv R os.length 0 ι (by omega) U0 Z0
      rw [← hnf] at U1 Z1
      have c0 : (List.range os.length).countP (fun i => !sel (Array.replicate ops.size false) i) = ops.size := by
        rw [hsz, List.countP_eq_length.2 fun i _ => by rw [← hsz, hnone]; rfl]
        simp
      exact any_sim hΓ R (ι0 := ι) (h0 := hp 0) (w0 := w) (fun ι' a' w' r1 r2 => K ι' a' w' (by rw [← fn, ← pn]; exact r1) (by rw [← pn]; exact r2)) ops.size _ a _ ι' _ q (by simp [hsz]) c0 U1 Z1
    · cases hs
  · cases hs

end Go.Am
