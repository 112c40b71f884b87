/- A region that draws its order, whose head also fills the one block that it lays: reads, calls and what is worked out first, then the block, then its store (what is worked out may come behind the store), then a chain. -/
import Derived.Test.YtbhoijkamnaopaaReg
namespace Go.Proofs.Ytbhoijkamnaopaa.Reg
open Go Go.RowKit Go.Sort
set_option linter.unusedVariables false
section
variable {P : Program} {ops : Array Oper} {md : Region.Mode} {B : World}
/-- The block h holds o behind the step, all else is as it was. -/
structure Put (h : Nat) (o : Obj) (w w' : World) : Prop where
  os : w'.os = w.os
  tape : w'.tape = w.tape
  output : w'.output = w.output
  size : w.heap.size ≤ w'.heap.size
  here : w'.heap[h]? = some o
  there : ∀ k, k ≠ h → w'.heap[k]? = w.heap[k]?
/-- One operation of the head: below n1 a reading one or a call; n1: a new block; n1 + 1: its store. -/
def sOp (P : Program) (ops : Array Oper) (B : World) (ob nb : Obj) (n1 : Nat) (i : Nat) (K : Act → Nat → Prop) (a : Act) (h : Nat) : Prop :=
  match ops[i]? with
  | none => K a h
  | some o =>
    if i < n1 then (if Region.wanted o (yielded ops a.tmps) then qeOp P o a B (fun a' => K a' h) else K (a.put o.dst undef) h)
    else if i = n1 then ∀ h', B.heap.size ≤ h' → K (a.put o.dst (.pointer (some ⟨h', 0, none⟩))) h'
    else (∀ w, w.heap[h]? = some ob → ∃ w', (execOp a.eval o).run P w = .ok .skip w' ∧ Put h nb w w') ∧ K (a.put o.dst undef) h
theorem sOp_mono {ob nb : Obj} {n1 i : Nat} {a : Act} {h : Nat} {K K' : Act → Nat → Prop} (hk : ∀ a h, K a h → K' a h) (hh : sOp P ops B ob nb n1 i K a h) : sOp P ops B ob nb n1 i K' a h := by
  unfold sOp at *
  split
  · rename_i ho; simp only [ho] at hh; exact hk _ _ hh
  · rename_i o ho
    simp only [ho] at hh
    split
    · rename_i hi
      simp only [hi, if_true] at hh
      split
      · rename_i hw; simp only [hw, if_true] at hh; exact qeOp_mono (fun a => hk a h) hh
      · rename_i hw; simp only [hw] at hh; exact hk _ _ hh
    · rename_i hi
      simp only [hi, if_false] at hh
      split
      · rename_i he; simp only [he, if_true] at hh; exact fun k hk' => hk _ _ (hh k hk')
      · rename_i he; simp only [he, if_false] at hh; exact ⟨hh.1, hk _ _ hh.2⟩
def wpS (P : Program) (md : Region.Mode) (ops : Array Oper) (B : World) (ob nb : Obj) (n1 : Nat) (F : Array Bool → Act → Nat → Prop) : Nat → Array Bool → Act → Nat → Prop
  | 0, listed, a, h => F listed a h
  | f + 1, listed, a, h => Region.ready md ops listed ≠ [] ∧ ∀ i ∈ Region.ready md ops listed, i < n1 + 2 ∧ sOp P ops B ob nb n1 i (wpS P md ops B ob nb n1 F f (listed.setIfInBounds i true)) a h
def SFacts (ob nb : Obj) (n1 : Nat) (listed : Array Bool) (h : Nat) (B w : World) : Prop :=
  listed.getD n1 false = true → B.heap.size ≤ h ∧ w.heap[h]? = some (if listed.getD (n1 + 1) false = true then nb else ob)
theorem getD_same {listed : Array Bool} {i j : Nat} (h : i ≠ j) : (listed.setIfInBounds i true).getD j false = listed.getD j false := getD_set_ne false h
theorem sOp_sound {ob nb : Obj} {n1 i : Nat} {listed : Array Bool} {a : Act} {h : Nat} {w : World} {K : Act → Nat → Prop} {K' : Act → World → Prop} {Q' : Exit → Act → World → Prop}
    (hA : LaysAt P ops n1 ob) (hg : ∀ o, ops[n1 + 1]? = some o → o.guard = none) (hw1 : Region.waitsFor md ops (n1 + 1) n1 = true) (inv : HeadInv md ops (n1 + 2) listed)
    (hin : i < n1 + 2) (hr : i ∈ Region.ready md ops listed) (hB : Below B.heap.size B w) (hf : SFacts ob nb n1 listed h B w)
    (hk : ∀ a h w, Below B.heap.size B w → SFacts ob nb n1 (listed.setIfInBounds i true) h B w → K a h → K' a w) (hh : sOp P ops B ob nb n1 i K a h) : wpOp P ops Q' i K' a w := by
  have hun := getD_both (mem_ready.1 hr).1
  have hlow : i < n1 → ∀ w', Below w.heap.size w w' → SFacts ob nb n1 (listed.setIfInBounds i true) h B w' := fun hi w' hb h1 => by
    rw [getD_same (by omega)] at h1 ⊢
    obtain ⟨h2, h3⟩ := hf h1
    exact ⟨h2, by rw [hb.block _ (Array.getElem?_eq_some_iff.1 h3).1]; exact h3⟩
  unfold sOp at hh
  unfold wpOp
  split
  · rename_i ho
    have := (mem_ready.1 hr).2
    rw [ho] at this
    obtain ⟨_, h1, _⟩ := this
    cases h1
  · rename_i o ho
    simp only [ho] at hh
    have hil : i < listed.size := by rw [inv.size]; exact (Array.getElem?_eq_some_iff.1 ho).1
    by_cases hi : i < n1
    · simp only [hi, if_true] at hh
      split
      · rename_i hw
        simp only [hw, if_true] at hh
        obtain ⟨v, h1, h2⟩ := hh
        have h3 := h1 w (regrown_of_below hB)
        left
        unfold Oper.wp
        generalize (execOp a.eval o).run P w = r at *
        cases r with
        | ok nx w' =>
          cases nx <;> simp only [qeUpon] at h3 <;> simp only [Oper.upon]
          case value u =>
            obtain ⟨e1, e2⟩ := h3
            rw [e1, e2]
            exact hk _ _ _ hB (hlow hi _ (Below.refl _ _)) h2
          case skip =>
            obtain ⟨e1, e2⟩ := h3
            rw [e1, ← e2]
            exact hk _ _ _ hB (hlow hi _ (Below.refl _ _)) h2
          case enter f args =>
            obtain ⟨e1, hc⟩ := h3
            rw [e1]
            refine hc.mono fun e w'' ⟨he, hw''⟩ => ?_
            subst he
            exact hk _ _ _ (hB.trans (Below.mono hw'' hB.size)) (hlow hi _ hw'') h2
        | halt x w' => simp only [qeUpon] at h3
      · rename_i hw
        simp only [hw] at hh
        exact hk _ _ _ hB (hlow hi _ (Below.refl _ _)) hh
    · simp only [hi, if_false] at hh
      by_cases he : i = n1
      · subst he
        simp only [if_true] at hh
        obtain ⟨o2, ho2, hg2, hrun⟩ := hA
        have : o2 = o := Option.some.inj (ho2.symm.trans ho)
        subst this
        have hw : Region.wanted o2 (yielded ops a.tmps) = true := by unfold Region.wanted; rw [hg2]
        simp only [hw, if_true]
        left
        unfold Oper.wp
        rw [hrun a w]
        simp only [Oper.upon]
        have hb1 : Below w.heap.size w (w.alloc ob) := Below.alloc (Below.refl _ w) (Nat.le_refl _) _
        refine hk _ _ _ (hB.trans (hb1.mono hB.size)) (fun _ => ⟨hB.size, ?_⟩) (hh w.heap.size hB.size)
        have hs1 : listed.getD (i + 1) false = false := by
          cases hl : listed.getD (i + 1) false with
          | false => rfl
          | true =>
            obtain ⟨oj, hoj, e, hem, hb, hon⟩ := Region.waitsFor_spec hw1
            have := inv.closed (i + 1) oj hoj hl e hem hb
            rw [hon, hun] at this
            cases this
        rw [getD_same (by omega), hs1]
        show (w.heap.push ob)[w.heap.size]? = _
        simp
      · have he1 : i = n1 + 1 := by omega
        subst he1
        simp only [if_neg he] at hh
        have hw : Region.wanted o (yielded ops a.tmps) = true := by unfold Region.wanted; rw [hg o ho]
        simp only [hw, if_true]
        have hl : listed.getD n1 false = true := by
          obtain ⟨oj, hoj, e, hem, hb, hon⟩ := Region.waitsFor_spec hw1
          obtain ⟨_, o3, ho3, hall⟩ := mem_ready.1 hr
          have : o3 = oj := Option.some.inj (ho3.symm.trans hoj)
          subst this
          have := hall e hem hb
          rwa [hon] at this
        obtain ⟨hge, hho⟩ := hf hl
        rw [hun] at hho
        obtain ⟨w', hrun, hp⟩ := hh.1 w (by simpa using hho)
        left
        unfold Oper.wp
        rw [hrun]
        simp only [Oper.upon]
        refine hk _ _ _ ⟨hp.os.trans hB.os, hp.tape.trans hB.tape, hp.output.trans hB.output, Nat.le_trans hB.size hp.size, fun k hk' => (hp.there k (by omega)).trans (hB.block k hk')⟩ (fun _ => ⟨hge, ?_⟩) hh.2
        have : (listed.setIfInBounds (n1 + 1) true).getD (n1 + 1) false = true := by simp [hil]
        rw [this, if_pos rfl]
        exact hp.here
theorem wpAny_of_wpS {ob nb : Obj} {n1 g : Nat} {F : Array Bool → Act → Nat → Prop} {Q' : Exit → Act → World → Prop}
    (hA : LaysAt P ops n1 ob) (hg : ∀ o, ops[n1 + 1]? = some o → o.guard = none) (hw1 : Region.waitsFor md ops (n1 + 1) n1 = true)
    (hF : ∀ listed a h w, F listed a h → Below B.heap.size B w → SFacts ob nb n1 listed h B w → wpAny P md ops Q' g listed a w) :
    ∀ (f : Nat) (listed : Array Bool) (a : Act) (h : Nat) (w : World), HeadInv md ops (n1 + 2) listed → Below B.heap.size B w → SFacts ob nb n1 listed h B w → wpS P md ops B ob nb n1 F f listed a h → wpAny P md ops Q' (f + g) listed a w
  | 0, listed, a, h, w, _, hb, hf, hh => by rw [Nat.zero_add]; exact hF _ _ _ _ hh hb hf
  | f + 1, listed, a, h, w, inv, hb, hf, hh => by
    rw [show f + 1 + g = (f + g) + 1 by omega]
    exact ⟨fun h0 => absurd h0 hh.1, fun i hi => sOp_sound hA hg hw1 inv (hh.2 i hi).1 hi hb hf (fun a' h' w' hb' hf' hk => wpAny_of_wpS hA hg hw1 hF f _ a' h' w' (inv.set hi (hh.2 i hi).1) hb' hf' hk) (hh.2 i hi).2⟩
theorem Yields.sOp {ob nb : Obj} {n1 i : Nat} {o : Oper} {v : Value} {a : Act} {h : Nat} (hi : ops[i]? = some o) (hn : i < n1) (hy : Yields P ops B o v a) {K : Act → Nat → Prop} (hh : K (a.put o.dst v) h) : sOp P ops B ob nb n1 i K a h := by
  unfold Reg.sOp
  simp only [hi, hn, if_true]
  rcases hy with ⟨hw, hv⟩ | ⟨hw, rfl⟩
  · simp only [hw, if_true]; exact ⟨v, hv, hh⟩
  · simp only [hw, Bool.false_eq_true, if_false]; exact hh
theorem sOp_put {ob nb : Obj} {n1 j : Nat} {oi oj : Oper} {v : Value} (hj : ops[j]? = some oj) (hap : oi.apart ops oj = true)
    (hsi : ∀ cs b, oi.op ≠ .select cs b) (hsj : ∀ cs b, oj.op ≠ .select cs b) {K : Act → Nat → Prop} {a : Act} {h : Nat}
    (hy : Yields P ops B oi v a) (hh : sOp P ops B ob nb n1 j K (a.put oi.dst v) h) :
    sOp P ops B ob nb n1 j (fun a' h' => Yields P ops B oi v a' ∧ K (a'.put oi.dst v) h') a h := by
  obtain ⟨h1, h2, h3⟩ := Oper.apart_spec hap
  have keep : ∀ (a : Act), Yields P ops B oi v a → ∀ u, Yields P ops B oi v (a.put oj.dst u) := fun a hy u =>
    hy.of_same (execOp_put oi hsi a oj.dst u h3) (wanted_put oi a oj.dst u h3)
  unfold sOp at *
  simp only [hj] at *
  split
  · rename_i hi
    simp only [hi, if_true] at hh
    rw [wanted_put oj a oi.dst v h1] at hh
    split
    · rename_i hw
      simp only [hw, if_true] at hh
      obtain ⟨u, hu, hn⟩ := hh
      refine ⟨u, fun w hw' => ?_, keep a hy u, by rw [← Act.put_comm a v u h2]; exact hn⟩
      have := hu w hw'
      rwa [execOp_put oj hsj a oi.dst v h1] at this
    · rename_i hw
      simp only [hw] at hh
      exact ⟨keep a hy _, by rw [← Act.put_comm a v undef h2]; exact hh⟩
  · rename_i hi
    simp only [hi, if_false] at hh
    split
    · rename_i he
      simp only [he, if_true] at hh
      exact fun k hk => ⟨keep a hy _, by rw [← Act.put_comm a v _ h2]; exact hh k hk⟩
    · rename_i he
      simp only [he, if_false] at hh
      refine ⟨fun w hw => ?_, keep a hy _, by rw [← Act.put_comm a v undef h2]; exact hh.2⟩
      have := hh.1 w hw
      rwa [execOp_put oj hsj a oi.dst v h1] at this
theorem first_s {ob nb : Obj} {n1 i : Nat} {oi : Oper} {v : Value} {F : Array Bool → Act → Nat → Prop} (hi : ops[i]? = some oi) (hi1 : i < n1) (hsel : ∀ (j : Nat) (o : Oper) cs b, ops[j]? = some o → o.op ≠ .select cs b)
    (hs : Region.sinkB md ops (n1 + 2) = true) (hc : Region.chainB md ops (n1 + 2) = true) (hn : n1 + 2 < ops.size)
    (hdone : ∀ listed a h, F listed a h → ∀ j ∈ Region.ready md ops listed, n1 + 2 ≤ j) :
    ∀ (f : Nat) (listed : Array Bool) (a : Act) (h : Nat), HeadInv md ops (n1 + 2) listed →
      (∀ j oj, ops[j]? = some oj → j ≠ i → listed.getD j true = false → (∀ e ∈ oj.after, Region.binds md e = true → e.on ≠ i) → oi.apart ops oj = true) →
      i ∈ Region.ready md ops listed → Yields P ops B oi v a →
      wpS P md ops B ob nb n1 F f (listed.setIfInBounds i true) (a.put oi.dst v) h → wpS P md ops B ob nb n1 F (f + 1) listed a h := by
  intro f
  induction f with
  | zero =>
    intro listed a h inv _ hr hy H
    have hun := (mem_ready.1 hr).1
    refine ⟨fun h => (by rw [h] at hr; cases hr), fun j hj => ?_⟩
    have hjn : j < n1 + 2 := by
      rcases Nat.lt_or_ge j (n1 + 2) with h | h
      · exact h
      · exact absurd hj (tail_waits hs hc hn inv _ i rfl (by omega) hun j h)
    refine ⟨hjn, ?_⟩
    by_cases hji : j = i
    · subst hji; exact hy.sOp hi hi1 H
    · have := hdone _ _ _ H j (ready_mono hj hji)
      omega
  | succ f ih =>
    intro listed a h inv hfree hr hy H
    have hun := (mem_ready.1 hr).1
    refine ⟨fun h => (by rw [h] at hr; cases hr), fun j hj => ?_⟩
    have hjn : j < n1 + 2 := by
      rcases Nat.lt_or_ge j (n1 + 2) with h | h
      · exact h
      · exact absurd hj (tail_waits hs hc hn inv _ i rfl (by omega) hun j h)
    refine ⟨hjn, ?_⟩
    by_cases hji : j = i
    · subst hji; exact hy.sOp hi hi1 H
    · have h1 := (H.2 j (ready_mono hj hji)).2
      obtain ⟨hjun, oj, hoj, hall⟩ := mem_ready.1 hj
      have hnot : ∀ e ∈ oj.after, Region.binds md e = true → e.on ≠ i := fun e he hb heq => by
        have h1 := hall e he hb
        rw [heq, getD_both hun] at h1
        cases h1
      have h2 := sOp_put hoj (hfree j oj hoj hji hjun hnot) (fun cs b => hsel i oi cs b hi) (fun cs b => hsel j oj cs b hoj) hy h1
      have hfree' : ∀ k ok, ops[k]? = some ok → k ≠ i → (listed.setIfInBounds j true).getD k true = false →
          (∀ e ∈ ok.after, Region.binds md e = true → e.on ≠ i) → oi.apart ops ok = true := fun k ok hk hki hun hno => by
        refine hfree k ok hk hki ?_ hno
        by_cases hjk : j = k
        · subst hjk; exact hjun
        · rw [getD_set_ne true hjk] at hun; exact hun
      refine sOp_mono (fun a' h' h3 => ih (listed.setIfInBounds j true) a' h' (inv.set hj hjn) hfree' (ready_mono hr (Ne.symm hji)) h3.1 ?_) h2
      rw [Array.setIfInBounds_comm _ _ hji]
      exact h3.2
theorem getD_on {listed : Array Bool} {i j : Nat} (hl : j < listed.size) (h : listed.getD j true = true ∨ j = i) : (listed.setIfInBounds i true).getD j true = true := by
  by_cases hij : i = j
  · subst hij; simp [hl]
  · rw [getD_set_ne true hij]
    rcases h with h | h
    · exact h
    · exact absurd h.symm hij
/-- What is read and called has come up: the block, its store, and on. -/
theorem s_last {ob nb : Obj} {n1 g : Nat} {L : Act → Nat → Prop} {h0 : Nat} {oa os : Oper} (ha : ops[n1]? = some oa) (ho : ops[n1 + 1]? = some os) (hw1 : Region.waitsFor md ops (n1 + 1) n1 = true) (hs : Region.sinkB md ops (n1 + 2) = true) (hc : Region.chainB md ops (n1 + 2) = true) (hn : n1 + 2 < ops.size)
    (listed : Array Bool) (a : Act) (inv : HeadInv md ops (n1 + 2) listed) (hq : ∀ j, j < n1 → listed.getD j true = true) (hB : Region.lexHead md ops g 2 n1 listed = true)
    (H : ∀ h, B.heap.size ≤ h → (∀ w, w.heap[h]? = some ob → ∃ w', (execOp (a.put oa.dst (.pointer (some ⟨h, 0, none⟩))).eval os).run P w = .ok .skip w' ∧ Put h nb w w') ∧ L ((a.put oa.dst (.pointer (some ⟨h, 0, none⟩))).put os.dst undef) h) :
    wpS P md ops B ob nb n1 (fun listed' a' h' => Region.seqB md ops g (n1 + 2) listed' = true ∧ listed'.getD n1 false = true ∧ listed'.getD (n1 + 1) false = true ∧ L a' h') 2 listed a h0 := by
  simp only [Region.lexHead, Bool.and_eq_true] at hB
  obtain ⟨⟨hr, _⟩, ⟨hr2, _⟩, hB3⟩ := hB
  have hr' : n1 ∈ Region.ready md ops listed := by simpa using hr
  have hr2' : n1 + 1 ∈ Region.ready md ops (listed.setIfInBounds n1 true) := by simpa using hr2
  have hun := (mem_ready.1 hr').1
  have inv1 := inv.set hr' (by omega)
  have hsz1 : n1 < listed.size := by rw [inv.size]; omega
  have hsz2 : n1 + 1 < listed.size := by rw [inv.size]; omega
  refine ⟨fun h => (by rw [h] at hr'; cases hr'), fun j hj => ?_⟩
  have hjn : j < n1 + 2 := by
    rcases Nat.lt_or_ge j (n1 + 2) with h | h
    · exact h
    · exact absurd hj (tail_waits hs hc hn inv _ n1 rfl (by omega) hun j h)
  have hju := (mem_ready.1 hj).1
  have hj1 : j = n1 := by
    rcases (by omega : j < n1 ∨ j = n1 ∨ j = n1 + 1) with h | h | h
    · rw [hq j h] at hju; cases hju
    · exact h
    · subst h
      obtain ⟨oj, hoj, e, hem, hb, hon⟩ := Region.waitsFor_spec hw1
      obtain ⟨_, o3, ho3, hall⟩ := mem_ready.1 hj
      have : o3 = oj := Option.some.inj (ho3.symm.trans hoj)
      subst this
      have := hall e hem hb
      rw [hon, getD_both hun] at this
      cases this
  subst hj1
  refine ⟨hjn, ?_⟩
  unfold sOp
  simp only [ha, Nat.lt_irrefl, if_false, if_true]
  intro h hh
  have hun2 := (mem_ready.1 hr2').1
  refine ⟨fun h => (by rw [h] at hr2'; cases hr2'), fun k hk => ?_⟩
  have hkn : k < j + 2 := by
    rcases Nat.lt_or_ge k (j + 2) with h | h
    · exact h
    · exact absurd hk (tail_waits hs hc hn inv1 _ (j + 1) rfl (by omega) hun2 k h)
  have hku := (mem_ready.1 hk).1
  have hk1 : k = j + 1 := by
    rcases (by omega : k < j + 1 ∨ k = j + 1) with h | h
    · have hd : listed.getD k true = true ∨ k = j := by
        rcases (by omega : k < j ∨ k = j) with h2 | h2
        · exact .inl (hq k h2)
        · exact .inr h2
      rw [getD_on (by omega) hd] at hku; cases hku
    · exact h
  subst hk1
  refine ⟨hkn, ?_⟩
  unfold sOp
  simp only [ho, show ¬ j + 1 < j by omega, show ¬ j + 1 = j by omega, if_false]
  refine ⟨(H h hh).1, by simpa [Region.lexHead] using hB3, ?_, ?_, (H h hh).2⟩
  · rw [getD_set_ne false (by omega)]; simp [hsz1]
  · simp [hsz2]
theorem s_lex {ob nb : Obj} {n1 g : Nat} {L : Act → Nat → Prop} {h0 : Nat} {oa os : Oper} (ha : ops[n1]? = some oa) (ho : ops[n1 + 1]? = some os) (hsel : Region.noSelect ops = true) (hw1 : Region.waitsFor md ops (n1 + 1) n1 = true) (hs : Region.sinkB md ops (n1 + 2) = true) (hc : Region.chainB md ops (n1 + 2) = true) (hn : n1 + 2 < ops.size) :
    ∀ (l : List Oper) (k : Nat) (listed : Array Bool) (a : Act), (∀ j, j < l.length → l[j]? = ops[k + j]?) → k + l.length = n1 → HeadInv md ops (n1 + 2) listed → (∀ j, j < k → listed.getD j true = true) →
    Region.lexHead md ops g (l.length + 2) k listed = true →
    wpE P ops B (fun a => ∀ h, B.heap.size ≤ h → (∀ w, w.heap[h]? = some ob → ∃ w', (execOp (a.put oa.dst (.pointer (some ⟨h, 0, none⟩))).eval os).run P w = .ok .skip w' ∧ Put h nb w w') ∧ L ((a.put oa.dst (.pointer (some ⟨h, 0, none⟩))).put os.dst undef) h) l a →
    wpS P md ops B ob nb n1 (fun listed' a' h' => Region.seqB md ops g (n1 + 2) listed' = true ∧ listed'.getD n1 false = true ∧ listed'.getD (n1 + 1) false = true ∧ L a' h') (l.length + 2) listed a h0
  | [], k, listed, a, _, hk, inv, hq, hB, h => by
    have : k = n1 := by simpa using hk
    subst this
    exact s_last ha ho hw1 hs hc hn listed a inv hq (by simpa using hB) h
  | o :: l, k, listed, a, hl, hk, inv, hq, hB, h => by
    have h0 : ops[k]? = some o := by simpa using (hl 0 (by simp)).symm
    rw [show (o :: l).length + 2 = (l.length + 2) + 1 by show l.length + 1 + 2 = l.length + 2 + 1; omega] at hB ⊢
    unfold Region.lexHead at hB
    simp only [Bool.and_eq_true] at hB
    obtain ⟨⟨hr, hf⟩, hB'⟩ := hB
    have hk1 : k < n1 := by simp only [List.length_cons] at hk; omega
    have hr' : k ∈ Region.ready md ops listed := by simpa using hr
    obtain ⟨v, hy, hK⟩ := yields_of h
    refine first_s h0 hk1 (Region.noSelect_spec hsel) hs hc hn (fun listed' a' S' hL => seqB_ready hL.1) _ listed a _ inv (Region.free_spec h0 hf) hr' hy ?_
    refine s_lex ha ho hsel hw1 hs hc hn l (k + 1) _ _ (fun j hj => by have := hl (j + 1) (by simp; omega); simpa [Nat.add_assoc, Nat.add_comm 1 j] using this) (by simp only [List.length_cons] at hk; omega) (inv.set hr' (by omega)) (fun j hj => ?_) hB' hK
    refine getD_on (by rw [inv.size]; have := (Array.getElem?_eq_some_iff.1 h0).1; omega) ?_
    rcases (by omega : j < k ∨ j = k) with h | h
    · exact .inl (hq j h)
    · exact .inr h
/-- The first n1 operations read, call or work out; number n1 lays a block, the next one fills it; the others come in a row. -/
theorem wp_region_fill {id : Nat} {Q : Exit → Act → World → Prop} {a : Act} {w : World} {l : List Oper} (n1 : Nat) (ob nb : Obj) {oa os : Oper} (hm : P.follows .mixedOrders = true) (hB : Region.lexTailB .any l.toArray (n1 + 2) = true) (hA : LaysAt P l.toArray n1 ob)
    (ha : l.toArray[n1]? = some oa) (ho : l.toArray[n1 + 1]? = some os) (hg : os.guard = none) (hw1 : Region.waitsFor .any l.toArray (n1 + 1) n1 = true) (hE : Below B.heap.size B w)
    (h : wpE P l.toArray B (fun a' => ∀ h, B.heap.size ≤ h → (∀ w, w.heap[h]? = some ob → ∃ w', (execOp (a'.put oa.dst (.pointer (some ⟨h, 0, none⟩))).eval os).run P w = .ok .skip w' ∧ Put h nb w w') ∧
        ∀ w', Below B.heap.size B w' → w'.heap[h]? = some nb → wpList P l.toArray Q (l.drop (n1 + 2)) ((a'.put oa.dst (.pointer (some ⟨h, 0, none⟩))).put os.dst undef) w') (l.take n1) a) : (Code.region id l.toArray true).wp P Q a w := by
  simp only [Region.lexTailB, Bool.and_eq_true, decide_eq_true_eq] at hB
  obtain ⟨⟨⟨⟨hsel, hn⟩, hs⟩, hc⟩, hlex⟩ := hB
  have hn' : n1 + 2 < l.length := by simpa using hn
  have htl : (l.take n1).length = n1 := by simp; omega
  have hdl : (l.drop (n1 + 2)).length = l.toArray.size - (n1 + 2) := by simp
  have inv0 : HeadInv .any l.toArray (n1 + 2) (Array.replicate l.toArray.size false) :=
    ⟨by simp, fun j oj _ hl => (by rw [getD_replicate_false] at hl; cases hl), fun t _ ht => getD_in (by simpa using ht) (getD_replicate_false _ _)⟩
  have H := s_lex (P := P) (B := B) (md := .any) (n1 := n1) (g := l.toArray.size - (n1 + 2)) (ob := ob) (nb := nb) (h0 := 0) (L := fun a' h => ∀ w', Below B.heap.size B w' → w'.heap[h]? = some nb → wpList P l.toArray Q (l.drop (n1 + 2)) a' w') ha ho hsel hw1 hs hc hn (l.take n1) 0 _ a (fun j hj => by
    have hj' : j < n1 := by rw [htl] at hj; exact hj
    simp [hj']) (by simpa using htl) inv0 (fun j hj => by omega) (by rw [htl]; exact hlex) h
  refine wp_region_any hm ?_
  have hE' : Below B.heap.size B { w with drawn := w.drawn + 1 } := ⟨hE.os, hE.tape, hE.output, hE.size, hE.block⟩
  have := wpAny_of_wpS (Q' := Q) (g := l.toArray.size - (n1 + 2)) hA (fun o h => by rw [ho] at h; cases h; exact hg) hw1 (fun listed a' h w' hL hb hf => by
    have h3 := hf hL.2.1
    rw [if_pos hL.2.2.1] at h3
    have := wpAny_of_seq (P := P) (md := .any) (Q' := Q) (l.drop (n1 + 2)) (n1 + 2) listed a' w' (fun j => by simp [List.getElem?_drop]) (by rw [hdl]; exact hL.1) (hL.2.2.2 w' hb h3.2)
    rwa [hdl] at this) _ _ _ _ _ inv0 hE' (fun h => by rw [getD_replicate_false] at h; cases h) H
  rw [htl, show n1 + 2 + (l.toArray.size - (n1 + 2)) = l.toArray.size by omega] at this
  exact this
end
end Go.Proofs.Ytbhoijkamnaopaa.Reg
