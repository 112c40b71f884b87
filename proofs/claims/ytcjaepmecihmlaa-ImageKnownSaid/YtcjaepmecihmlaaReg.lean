/- A region that draws its order: reads and calls first (each by one contract, in any world that has grown out of B), then blocks are laid, then a chain of whatever operations: one walk of the text's order. -/
import Derived.StillTail
import Derived.Lib.QuietBelow
import Derived.BigQuiet
namespace Go.Proofs.Ytcjaepmecihmlaa.Reg
open Go Go.RowKit Go.Sort
set_option linter.unusedVariables false

/-- What stood in w stands in w'. -/
def Ext (w w' : World) : Prop := Below w.heap.size w w'
/-- What is asked of a reading operation or a call in the world w. -/
def qeUpon (P : Program) (w : World) (v : Value) : Result Next → Prop
  | .ok (.value u) w' => w' = w ∧ u = v
  | .ok .skip w' => w' = w ∧ v = undef
  | .ok (.enter f args) w' => w' = w ∧ Calls P f args w (fun e w'' => e = .returned v ∧ Ext w w'')
  | _ => False
/-- One value, in every world grown out of B. -/
def qeOp (P : Program) (o : Oper) (a : Act) (B : World) (next : Act → Prop) : Prop :=
  ∃ v, (∀ w', (∃ p : Regrown, w' = grow (redrawn B p.d) p.os) → qeUpon P w' v ((execOp a.eval o).run P w')) ∧ next (a.put o.dst v)
def wpE (P : Program) (ops : Array Oper) (B : World) (Q : Act → Prop) : List Oper → Act → Prop
  | [], a => Q a
  | o :: rest, a => if Region.wanted o (yielded ops a.tmps) then qeOp P o a B (wpE P ops B Q rest) else wpE P ops B Q rest (a.put o.dst undef)
section
variable {P : Program} {ops : Array Oper} {md : Region.Mode} {B : World}
theorem wpE_nil {Q : Act → Prop} {a : Act} (h : Q a) : wpE P ops B Q [] a := h
theorem wpE_step {Q : Act → Prop} {a : Act} {o : Oper} {rest : List Oper}
    (h : ∀ K : Act → Prop, (∀ a, wpE P ops B Q rest a → K a) → if Region.wanted o (yielded ops a.tmps) then qeOp P o a B K else K (a.put o.dst undef)) : wpE P ops B Q (o :: rest) a :=
  h _ (fun _ h => h)
/-- Operations that yield a value and enter nothing: by the cheap step (Derived.BigQuiet). -/
def plainOp : Op → Bool
  | .move _ | .assign _ | .pick .. | .build .. | .load .. | .binOp .. | .unOp .. | .convert .. | .slice .. | .field .. | .fieldAddr .. | .index .. | .indexAddr .. | .lookup .. | .extract .. | .makeInterface .. | .typeAssert .. => true
  | _ => false
theorem no_enter_v (s : Sem Value) (w : World) (f : FuncId) (args : Array Value) (w' : World) : (do pure (Next.value (← s)) : Sem Next).run P w ≠ .ok (.enter f args) w' := by
  intro h
  simp at h
  cases hs : s.run P w <;> simp [hs] at h
theorem no_enter {o : Oper} {ρ : Operand → Value} (h : plainOp o.op = true) (w : World) (f : FuncId) (args : Array Value) (w' : World) : (execOp ρ o).run P w ≠ .ok (.enter f args) w' := by
  unfold execOp
  cases ho : o.op <;> simp only [ho, plainOp, Bool.false_eq_true] at h ⊢
  case move => intro h; simp at h
  case assign => intro h; simp at h
  case pick c a b =>
    intro h
    generalize asBool (ρ c) = s at h
    simp at h
    cases hs : s.run P w <;> simp [hs] at h
  all_goals exact no_enter_v _ w f args w'
theorem wpE_big {Q : Act → Prop} {a : Act} {o : Oper} {rest : List Oper} (hw : Region.wanted o (yielded ops a.tmps) = true)
    (h : ∀ K : Act → Prop, (∀ a, wpE P ops B Q rest a → K a) → Oper.quiet P o a (fun w' => ∃ p : Regrown, w' = grow (redrawn B p.d) p.os) K)
    (hn : plainOp o.op = true) : wpE P ops B Q (o :: rest) a := by
  unfold wpE
  rw [if_pos hw]
  obtain ⟨v, h1, h2⟩ := h _ (fun _ h => h)
  refine ⟨v, fun w hw' => ?_, h2⟩
  have h3 := h1 w hw'
  have h4 := no_enter (P := P) (ρ := a.eval) hn w
  unfold Oper.quietAt at h3
  generalize (execOp a.eval o).run P w = r at *
  cases r with
  | ok nx w' =>
    cases nx <;> simp only [Oper.quietUpon] at h3 <;> simp only [qeUpon]
    case value u => exact h3
    case skip => exact h3
    case enter f args => exact absurd rfl (h4 f args w')
  | halt x w' => simp only [Oper.quietUpon] at h3
theorem wpE_skip {Q : Act → Prop} {a : Act} {o : Oper} {rest : List Oper} (hw : Region.wanted o (yielded ops a.tmps) = false) (h : wpE P ops B Q rest (a.put o.dst undef)) : wpE P ops B Q (o :: rest) a := by
  unfold wpE
  rw [if_neg (by rw [hw]; decide)]
  exact h
theorem qeOp_mono {o : Oper} {a : Act} {K K' : Act → Prop} (h : ∀ a, K a → K' a) (hh : qeOp P o a B K) : qeOp P o a B K' :=
  let ⟨v, h1, h2⟩ := hh
  ⟨v, h1, h _ h2⟩
/-- One operation of the head, number i: below n1 a reading one or a call, from there on a new block. -/
def hOp (P : Program) (ops : Array Oper) (B : World) (n1 : Nat) (i : Nat) (K : Act → (Nat → Nat) → Prop) (a : Act) (S : Nat → Nat) : Prop :=
  match ops[i]? with
  | none => K a S
  | some o =>
    if i < n1 then (if Region.wanted o (yielded ops a.tmps) then qeOp P o a B (fun a' => K a' S) else K (a.put o.dst undef) S)
    else ∀ h, B.heap.size ≤ h → K (a.put o.dst (.pointer (some ⟨h, 0, none⟩))) (fun j => if j = i then h else S j)
theorem hOp_mono {n1 i : Nat} {a : Act} {S : Nat → Nat} {K K' : Act → (Nat → Nat) → Prop} (h : ∀ a S, K a S → K' a S) (hh : hOp P ops B n1 i K a S) : hOp P ops B n1 i K' a S := by
  unfold hOp at *
  split
  · rename_i ho; simp only [ho] at hh; exact h _ _ hh
  · rename_i o ho
    simp only [ho] at hh
    split
    · rename_i hi
      simp only [hi, if_true] at hh
      split
      · rename_i hw; simp only [hw, if_true] at hh; exact qeOp_mono (fun a => h a S) hh
      · rename_i hw; simp only [hw] at hh; exact h _ _ hh
    · rename_i hi
      simp only [hi] at hh
      exact fun k hk => h _ _ (hh k hk)
def wpH (P : Program) (md : Region.Mode) (ops : Array Oper) (B : World) (n1 n : Nat) (F : Array Bool → Act → (Nat → Nat) → Prop) : Nat → Array Bool → Act → (Nat → Nat) → Prop
  | 0, listed, a, S => F listed a S
  | f + 1, listed, a, S => Region.ready md ops listed ≠ [] ∧ ∀ i ∈ Region.ready md ops listed, i < n ∧ hOp P ops B n1 i (wpH P md ops B n1 n F f (listed.setIfInBounds i true)) a S
/-- What is known of the blocks laid so far. -/
def Facts (ob : Nat → Obj) (n1 n : Nat) (listed : Array Bool) (S : Nat → Nat) (B w : World) : Prop :=
  (∀ i, n1 ≤ i → i < n → listed.getD i false = true → B.heap.size ≤ S i ∧ w.heap[S i]? = some (ob i)) ∧
  ∀ i j, n1 ≤ i → i < n → n1 ≤ j → j < n → listed.getD i false = true → listed.getD j false = true → i ≠ j → S i ≠ S j
theorem Facts.grown {ob : Nat → Obj} {n1 n : Nat} {listed : Array Bool} {S : Nat → Nat} {w w' : World} (h : Facts ob n1 n listed S B w) (hb : Below w.heap.size w w') : Facts ob n1 n listed S B w' :=
  ⟨fun i h1 h2 h3 => ⟨(h.1 i h1 h2 h3).1, by
    have h4 := (h.1 i h1 h2 h3).2
    rw [hb.block _ (Array.getElem?_eq_some_iff.1 h4).1]; exact h4⟩, h.2⟩
theorem getD_setIf {listed : Array Bool} {i j : Nat} (h : (listed.setIfInBounds i true).getD j false = true) : j = i ∨ listed.getD j false = true := by
  by_cases hij : i = j
  · exact .inl hij.symm
  · rw [getD_set_ne false hij] at h; exact .inr h
theorem hOp_sound {n1 n i : Nat} {ob : Nat → Obj} {listed : Array Bool} {a : Act} {S : Nat → Nat} {w : World} {K : Act → (Nat → Nat) → Prop} {K' : Act → World → Prop} {Q' : Exit → Act → World → Prop}
    (hAl : ∀ i, n1 ≤ i → i < n → ∃ o, ops[i]? = some o ∧ o.guard = none ∧ ∀ (a : Act) (w : World), (execOp a.eval o).run P w = .ok (.value (.pointer (some ⟨w.heap.size, 0, none⟩))) (w.alloc (ob i)))
    (hin : i < n) (hr : i ∈ Region.ready md ops listed) (hB : Below B.heap.size B w) (hf : Facts ob n1 n listed S B w)
    (h : ∀ a S w, Below B.heap.size B w → Facts ob n1 n (listed.setIfInBounds i true) S B w → K a S → K' a w) (hh : hOp P ops B n1 i K a S) : wpOp P ops Q' i K' a w := by
  have hlt : ∀ j, n1 ≤ j → j < n → listed.getD j false = true → S j < w.heap.size := fun j h1 h2 h3 => (Array.getElem?_eq_some_iff.1 (hf.1 j h1 h2 h3).2).1
  have hlow : i < n1 → ∀ w', Facts ob n1 n listed S B w' → Facts ob n1 n (listed.setIfInBounds i true) S B w' := fun hi w' hf' => by
    refine ⟨fun j h1 h2 h3 => ?_, fun j k h1 h2 h3 h4 h5 h6 => ?_⟩
    · rcases getD_setIf h3 with rfl | h3
      · omega
      · exact hf'.1 j h1 h2 h3
    · rcases getD_setIf h5 with rfl | h5
      · omega
      · rcases getD_setIf h6 with rfl | h6
        · omega
        · exact hf'.2 j k h1 h2 h3 h4 h5 h6
  unfold hOp at hh
  unfold wpOp
  split
  · rename_i ho
    have := (mem_ready.1 hr).2
    rw [ho] at this
    obtain ⟨_, h1, _⟩ := this
    cases h1
  · rename_i o ho
    simp only [ho] at hh
    by_cases hi : i < n1
    · simp only [hi, if_true] at hh
      split
      · rename_i hw
        simp only [hw, if_true] at hh
        obtain ⟨v, h1, h2⟩ := hh
        have h3 := h1 w (regrown_of_below hB)
        left
        unfold Oper.wp
        generalize (execOp a.eval o).run P w = r at *
        cases r with
        | ok nx w' =>
          cases nx <;> simp only [qeUpon] at h3 <;> simp only [Oper.upon]
          case value u =>
            obtain ⟨e1, e2⟩ := h3
            rw [e1, e2]
            exact h _ _ _ hB (hlow hi _ hf) h2
          case skip =>
            obtain ⟨e1, e2⟩ := h3
            rw [e1, ← e2]
            exact h _ _ _ hB (hlow hi _ hf) h2
          case enter f args =>
            obtain ⟨e1, hc⟩ := h3
            rw [e1]
            refine hc.mono fun e w'' ⟨he, hw''⟩ => ?_
            subst he
            exact h _ _ _ (hB.trans (Below.mono hw'' hB.size)) (hlow hi _ (hf.grown hw'')) h2
        | halt x w' => simp only [qeUpon] at h3
      · rename_i hw
        simp only [hw] at hh
        exact h _ _ _ hB (hlow hi _ hf) hh
    · simp only [hi, if_false] at hh
      obtain ⟨o2, ho2, hg, hrun⟩ := hAl i (by omega) hin
      have : o2 = o := Option.some.inj (ho2.symm.trans ho)
      subst this
      have hw : Region.wanted o2 (yielded ops a.tmps) = true := by unfold Region.wanted; rw [hg]
      simp only [hw, if_true]
      left
      unfold Oper.wp
      rw [hrun a w]
      simp only [Oper.upon]
      have hb1 : Below w.heap.size w (w.alloc (ob i)) := Below.alloc (Below.refl _ w) (Nat.le_refl _) _
      refine h _ _ _ (hB.trans (hb1.mono hB.size)) ?_ (hh w.heap.size hB.size)
      have hf2 := hf.grown hb1
      refine ⟨fun j h1 h2 h3 => ?_, fun j k h1 h2 h3 h4 h5 h6 hne => ?_⟩
      · by_cases hji : j = i
        · subst hji
          simp only [if_true]
          refine ⟨hB.size, ?_⟩
          show (w.heap.push (ob j))[w.heap.size]? = _
          simp
        · simp only [hji, if_false]
          rcases getD_setIf h3 with h7 | h7
          · exact absurd h7 hji
          · exact hf2.1 j h1 h2 h7
      · by_cases hji : j = i
        · by_cases hki : k = i
          · omega
          · simp only [hji, hki, if_true, if_false]
            rcases getD_setIf h6 with h7 | h7
            · exact absurd h7 hki
            · have := hlt k h3 h4 h7; omega
        · by_cases hki : k = i
          · simp only [hji, hki, if_true, if_false]
            rcases getD_setIf h5 with h7 | h7
            · exact absurd h7 hji
            · have := hlt j h1 h2 h7; omega
          · simp only [hji, hki, if_false]
            rcases getD_setIf h5 with h7 | h7
            · exact absurd h7 hji
            rcases getD_setIf h6 with h8 | h8
            · exact absurd h8 hki
            exact hf.2 j k h1 h2 h3 h4 h7 h8 hne
theorem wpAny_of_wpH {n1 n g : Nat} {ob : Nat → Obj} {F : Array Bool → Act → (Nat → Nat) → Prop} {Q' : Exit → Act → World → Prop}
    (hAl : ∀ i, n1 ≤ i → i < n → ∃ o, ops[i]? = some o ∧ o.guard = none ∧ ∀ (a : Act) (w : World), (execOp a.eval o).run P w = .ok (.value (.pointer (some ⟨w.heap.size, 0, none⟩))) (w.alloc (ob i)))
    (hF : ∀ listed a S w, F listed a S → Below B.heap.size B w → Facts ob n1 n listed S B w → wpAny P md ops Q' g listed a w) :
    ∀ (f : Nat) (listed : Array Bool) (a : Act) (S : Nat → Nat) (w : World), Below B.heap.size B w → Facts ob n1 n listed S B w → wpH P md ops B n1 n F f listed a S → wpAny P md ops Q' (f + g) listed a w
  | 0, listed, a, S, w, hb, hf, h => by rw [Nat.zero_add]; exact hF _ _ _ _ h hb hf
  | f + 1, listed, a, S, w, hb, hf, h => by
    rw [show f + 1 + g = (f + g) + 1 by omega]
    exact ⟨fun h0 => absurd h0 h.1, fun i hi => hOp_sound hAl (h.2 i hi).1 hi hb hf (fun a' S' w' hb' hf' h' => wpAny_of_wpH hAl hF f _ a' S' w' hb' hf' h') (h.2 i hi).2⟩
/-- In state a, in every world grown out of B, o leaves v. -/
def Yields (P : Program) (ops : Array Oper) (B : World) (o : Oper) (v : Value) (a : Act) : Prop :=
  (Region.wanted o (yielded ops a.tmps) = true ∧ ∀ w', (∃ p : Regrown, w' = grow (redrawn B p.d) p.os) → qeUpon P w' v ((execOp a.eval o).run P w')) ∨
  (Region.wanted o (yielded ops a.tmps) = false ∧ v = undef)
theorem Yields.of_same {o : Oper} {v : Value} {a a' : Act} (hy : Yields P ops B o v a) (he : execOp a'.eval o = execOp a.eval o)
    (hw : Region.wanted o (yielded ops a'.tmps) = Region.wanted o (yielded ops a.tmps)) : Yields P ops B o v a' := by
  unfold Yields at *
  rw [he, hw]
  exact hy
theorem Yields.hOp {n1 i : Nat} {o : Oper} {v : Value} {a : Act} {S : Nat → Nat} (hi : ops[i]? = some o) (hn : i < n1) (hy : Yields P ops B o v a) {K : Act → (Nat → Nat) → Prop} (h : K (a.put o.dst v) S) : hOp P ops B n1 i K a S := by
  unfold Reg.hOp
  simp only [hi, hn, if_true]
  rcases hy with ⟨hw, hv⟩ | ⟨hw, rfl⟩
  · simp only [hw, if_true]; exact ⟨v, hv, h⟩
  · simp only [hw, Bool.false_eq_true, if_false]; exact h
theorem yields_of {o : Oper} {a : Act} {K : Act → Prop} (h : if Region.wanted o (yielded ops a.tmps) then qeOp P o a B K else K (a.put o.dst undef)) : ∃ v, Yields P ops B o v a ∧ K (a.put o.dst v) := by
  by_cases hw : Region.wanted o (yielded ops a.tmps) = true
  · simp only [hw, if_true] at h
    obtain ⟨v, h1, h2⟩ := h
    exact ⟨v, .inl ⟨hw, h1⟩, h2⟩
  · simp only [hw] at h
    exact ⟨undef, .inr ⟨by simpa using hw, rfl⟩, h⟩
theorem hOp_put {n1 j : Nat} {oi oj : Oper} {v : Value} (hj : ops[j]? = some oj) (hap : oi.apart ops oj = true)
    (hsi : ∀ cs b, oi.op ≠ .select cs b) (hsj : ∀ cs b, oj.op ≠ .select cs b) {K : Act → (Nat → Nat) → Prop} {a : Act} {S : Nat → Nat}
    (hy : Yields P ops B oi v a) (h : hOp P ops B n1 j K (a.put oi.dst v) S) :
    hOp P ops B n1 j (fun a' S' => Yields P ops B oi v a' ∧ K (a'.put oi.dst v) S') a S := by
  obtain ⟨h1, h2, h3⟩ := Oper.apart_spec hap
  have keep : ∀ (a : Act), Yields P ops B oi v a → ∀ u, Yields P ops B oi v (a.put oj.dst u) := fun a hy u =>
    hy.of_same (execOp_put oi hsi a oj.dst u h3) (wanted_put oi a oj.dst u h3)
  unfold hOp at *
  simp only [hj] at *
  split
  · rename_i hi
    simp only [hi, if_true] at h
    rw [wanted_put oj a oi.dst v h1] at h
    split
    · rename_i hw
      simp only [hw, if_true] at h
      obtain ⟨u, hu, hn⟩ := h
      refine ⟨u, fun w hw' => ?_, keep a hy u, by rw [← Act.put_comm a v u h2]; exact hn⟩
      have := hu w hw'
      rwa [execOp_put oj hsj a oi.dst v h1] at this
    · rename_i hw
      simp only [hw] at h
      exact ⟨keep a hy _, by rw [← Act.put_comm a v undef h2]; exact h⟩
  · rename_i hi
    simp only [hi] at h
    exact fun k hk => ⟨keep a hy _, by rw [← Act.put_comm a v _ h2]; exact h k hk⟩
theorem first_quiet {n1 n i : Nat} {oi : Oper} {v : Value} {F : Array Bool → Act → (Nat → Nat) → Prop} (hi : ops[i]? = some oi) (hi1 : i < n1) (hsel : ∀ (j : Nat) (o : Oper) cs b, ops[j]? = some o → o.op ≠ .select cs b)
    (hs : Region.sinkB md ops n = true) (hc : Region.chainB md ops n = true) (hn : n < ops.size) (hin : i < n)
    (hdone : ∀ listed a S, F listed a S → ∀ j ∈ Region.ready md ops listed, n ≤ j) :
    ∀ (f : Nat) (listed : Array Bool) (a : Act) (S : Nat → Nat), HeadInv md ops n listed →
      (∀ j oj, ops[j]? = some oj → j ≠ i → listed.getD j true = false → (∀ e ∈ oj.after, Region.binds md e = true → e.on ≠ i) → oi.apart ops oj = true) →
      i ∈ Region.ready md ops listed → Yields P ops B oi v a →
      wpH P md ops B n1 n F f (listed.setIfInBounds i true) (a.put oi.dst v) S → wpH P md ops B n1 n F (f + 1) listed a S := by
  intro f
  induction f with
  | zero =>
    intro listed a S inv _ hr hy H
    have hun := (mem_ready.1 hr).1
    refine ⟨fun h => (by rw [h] at hr; cases hr), fun j hj => ?_⟩
    have hjn : j < n := by
      rcases Nat.lt_or_ge j n with h | h
      · exact h
      · exact absurd hj (tail_waits hs hc hn inv _ i rfl hin hun j h)
    refine ⟨hjn, ?_⟩
    by_cases hji : j = i
    · subst hji; exact hy.hOp hi hi1 H
    · have := hdone _ _ _ H j (ready_mono hj hji)
      omega
  | succ f ih =>
    intro listed a S inv hfree hr hy H
    have hun := (mem_ready.1 hr).1
    refine ⟨fun h => (by rw [h] at hr; cases hr), fun j hj => ?_⟩
    have hjn : j < n := by
      rcases Nat.lt_or_ge j n with h | h
      · exact h
      · exact absurd hj (tail_waits hs hc hn inv _ i rfl hin hun j h)
    refine ⟨hjn, ?_⟩
    by_cases hji : j = i
    · subst hji; exact hy.hOp hi hi1 H
    · have h1 := (H.2 j (ready_mono hj hji)).2
      obtain ⟨hjun, oj, hoj, hall⟩ := mem_ready.1 hj
      have hnot : ∀ e ∈ oj.after, Region.binds md e = true → e.on ≠ i := fun e he hb heq => by
        have h1 := hall e he hb
        rw [heq, getD_both hun] at h1
        cases h1
      have h2 := hOp_put hoj (hfree j oj hoj hji hjun hnot) (fun cs b => hsel i oi cs b hi) (fun cs b => hsel j oj cs b hoj) hy h1
      have hfree' : ∀ k ok, ops[k]? = some ok → k ≠ i → (listed.setIfInBounds j true).getD k true = false →
          (∀ e ∈ ok.after, Region.binds md e = true → e.on ≠ i) → oi.apart ops ok = true := fun k ok hk hki hun hno => by
        refine hfree k ok hk hki ?_ hno
        by_cases hjk : j = k
        · subst hjk; exact hjun
        · rw [getD_set_ne true hjk] at hun; exact hun
      refine hOp_mono (fun a' S' h3 => ih (listed.setIfInBounds j true) a' S' (inv.set hj hjn) hfree' (ready_mono hr (Ne.symm hji)) h3.1 ?_) h2
      rw [Array.setIfInBounds_comm _ _ hji]
      exact h3.2
theorem first_block {n1 n i : Nat} {oi : Oper} {F : Array Bool → Act → (Nat → Nat) → Prop} (hi : ops[i]? = some oi) (hi1 : n1 ≤ i)
    (hs : Region.sinkB md ops n = true) (hc : Region.chainB md ops n = true) (hn : n < ops.size) (hin : i < n)
    (hdone : ∀ listed a S, F listed a S → ∀ j ∈ Region.ready md ops listed, n ≤ j) :
    ∀ (f : Nat) (listed : Array Bool) (a : Act) (S : Nat → Nat), HeadInv md ops n listed → (∀ j, j < n1 → listed.getD j true = true) →
      (∀ j oj, ops[j]? = some oj → j ≠ i → listed.getD j true = false → (∀ e ∈ oj.after, Region.binds md e = true → e.on ≠ i) → oi.apart ops oj = true) →
      i ∈ Region.ready md ops listed →
      (∀ h, B.heap.size ≤ h → wpH P md ops B n1 n F f (listed.setIfInBounds i true) (a.put oi.dst (.pointer (some ⟨h, 0, none⟩))) (fun j => if j = i then h else S j)) → wpH P md ops B n1 n F (f + 1) listed a S := by
  intro f
  induction f with
  | zero =>
    intro listed a S inv hq _ hr H
    have hun := (mem_ready.1 hr).1
    refine ⟨fun h => (by rw [h] at hr; cases hr), fun j hj => ?_⟩
    have hjn : j < n := by
      rcases Nat.lt_or_ge j n with h | h
      · exact h
      · exact absurd hj (tail_waits hs hc hn inv _ i rfl hin hun j h)
    refine ⟨hjn, ?_⟩
    by_cases hji : j = i
    · subst hji
      unfold hOp
      simp only [hi, show ¬ j < n1 by omega, if_false]
      exact H
    · have := hdone _ _ _ (H B.heap.size (Nat.le_refl _)) j (ready_mono hj hji)
      omega
  | succ f ih =>
    intro listed a S inv hq hfree hr H
    have hun := (mem_ready.1 hr).1
    refine ⟨fun h => (by rw [h] at hr; cases hr), fun j hj => ?_⟩
    have hjn : j < n := by
      rcases Nat.lt_or_ge j n with h | h
      · exact h
      · exact absurd hj (tail_waits hs hc hn inv _ i rfl hin hun j h)
    refine ⟨hjn, ?_⟩
    by_cases hji : j = i
    · subst hji
      unfold hOp
      simp only [hi, show ¬ j < n1 by omega, if_false]
      exact H
    · obtain ⟨hjun, oj, hoj, hall⟩ := mem_ready.1 hj
      have hj1 : ¬ j < n1 := fun hlt => by rw [hq j hlt] at hjun; cases hjun
      have hnot : ∀ e ∈ oj.after, Region.binds md e = true → e.on ≠ i := fun e he hb heq => by
        have h1 := hall e he hb
        rw [heq, getD_both hun] at h1
        cases h1
      have hap := hfree j oj hoj hji hjun hnot
      obtain ⟨_, h2, _⟩ := Oper.apart_spec hap
      have hfree' : ∀ k ok, ops[k]? = some ok → k ≠ i → (listed.setIfInBounds j true).getD k true = false →
          (∀ e ∈ ok.after, Region.binds md e = true → e.on ≠ i) → oi.apart ops ok = true := fun k ok hk hki hun hno => by
        refine hfree k ok hk hki ?_ hno
        by_cases hjk : j = k
        · subst hjk; exact hjun
        · rw [getD_set_ne true hjk] at hun; exact hun
      have hq' : ∀ k, k < n1 → (listed.setIfInBounds j true).getD k true = true := fun k hk => by
        rw [getD_set_ne true (by omega)]; exact hq k hk
      unfold hOp
      simp only [hoj, hj1, if_false]
      intro h' hh'
      refine ih (listed.setIfInBounds j true) _ _ (inv.set hj hjn) hq' hfree' (ready_mono hr (Ne.symm hji)) (fun h hh => ?_)
      have h1 := ((H h hh).2 j (ready_mono hj hji)).2
      unfold hOp at h1
      simp only [hoj, hj1, if_false] at h1
      have h3 := h1 h' hh'
      rw [Array.setIfInBounds_comm _ _ hji, ← Act.put_comm a _ _ h2]
      have e : (fun k => if k = i then h else if k = j then h' else S k) = (fun k => if k = j then h' else if k = i then h else S k) := by
        funext k
        by_cases hki : k = i
        · have hkj : ¬ k = j := by omega
          simp only [hki, if_true, if_neg (show ¬ i = j by omega)]
        · simp only [hki, if_false]
      rw [e]
      exact h3
theorem getD_tt {listed : Array Bool} {j : Nat} (hj : j < listed.size) (h : listed.getD j true = true) : listed.getD j false = true := by
  simp [hj] at h ⊢; exact h
/-- The blocks' places, one behind the other. -/
def wpAl (ops : Array Oper) (B : World) (L : Act → (Nat → Nat) → Prop) : Nat → Nat → Act → (Nat → Nat) → Prop
  | 0, _, a, S => L a S
  | m + 1, k, a, S => ∀ h, B.heap.size ≤ h → wpAl ops B L m (k + 1) (a.put ((ops[k]?).bind (·.dst)) (.pointer (some ⟨h, 0, none⟩))) (fun j => if j = k then h else S j)
theorem al_lex {n1 n g : Nat} {L : Act → (Nat → Nat) → Prop} (hs : Region.sinkB md ops n = true) (hc : Region.chainB md ops n = true) (hn : n < ops.size) :
    ∀ (m k : Nat) (listed : Array Bool) (a : Act) (S : Nat → Nat), k + m = n → n1 ≤ k → HeadInv md ops n listed → (∀ j, j < k → listed.getD j true = true) → Region.lexHead md ops g m k listed = true → wpAl ops B L m k a S →
    wpH P md ops B n1 n (fun listed' a' S' => Region.seqB md ops g n listed' = true ∧ (∀ j, j < n → listed'.getD j false = true) ∧ L a' S') m listed a S
  | 0, k, listed, a, S, hk, _, inv, hq, hB, h => by
    have : k = n := by simpa using hk
    subst this
    exact ⟨by simpa [Region.lexHead] using hB, fun j hj => getD_tt (by rw [inv.size]; omega) (hq j hj), h⟩
  | m + 1, k, listed, a, S, hk, hk1, inv, hq, hB, h => by
    have hkn : k < n := by omega
    simp only [Region.lexHead, Bool.and_eq_true] at hB
    obtain ⟨⟨hr, hf⟩, hB'⟩ := hB
    have hr' : k ∈ Region.ready md ops listed := by simpa using hr
    obtain ⟨_, o, ho, _⟩ := mem_ready.1 hr'
    refine first_block ho hk1 hs hc hn hkn (fun listed' a' S' hL => seqB_ready hL.1) m listed a S inv (fun j hj => hq j (by omega)) (Region.free_spec ho hf) hr' (fun hh hhh => ?_)
    have h1 := h hh hhh
    rw [ho] at h1
    refine al_lex hs hc hn m (k + 1) _ _ _ (by omega) (by omega) (inv.set hr' hkn) (fun j hj => ?_) hB' h1
    by_cases hjk : k = j
    · subst hjk
      have hsz : k < listed.size := by rw [inv.size]; omega
      simp [hsz]
    · rw [getD_set_ne true hjk]; exact hq j (by omega)
theorem quiet_lex {n1 n g : Nat} {L : Act → (Nat → Nat) → Prop} {S : Nat → Nat} (hsel : Region.noSelect ops = true) (hs : Region.sinkB md ops n = true) (hc : Region.chainB md ops n = true) (hn : n < ops.size) (hle : n1 ≤ n) :
    ∀ (l : List Oper) (k : Nat) (listed : Array Bool) (a : Act), (∀ j, j < l.length → l[j]? = ops[k + j]?) → k + l.length = n1 → HeadInv md ops n listed → (∀ j, j < k → listed.getD j true = true) →
    Region.lexHead md ops g (l.length + (n - n1)) k listed = true → wpE P ops B (fun a' => wpAl ops B L (n - n1) n1 a' S) l a →
    wpH P md ops B n1 n (fun listed' a' S' => Region.seqB md ops g n listed' = true ∧ (∀ j, j < n → listed'.getD j false = true) ∧ L a' S') (l.length + (n - n1)) listed a S
  | [], k, listed, a, _, hk, inv, hq, hB, h => by
    have : k = n1 := by simpa using hk
    subst this
    have hB2 : Region.lexHead md ops g (n - k) k listed = true := by simpa using hB
    have := al_lex (P := P) (B := B) (n1 := k) (n := n) (g := g) (L := L) hs hc hn (n - k) k listed a S (by omega) (Nat.le_refl _) inv hq hB2 h
    simpa using this
  | o :: l, k, listed, a, hl, hk, inv, hq, hB, h => by
    have h0 : ops[k]? = some o := by simpa using (hl 0 (by simp)).symm
    rw [show (o :: l).length + (n - n1) = (l.length + (n - n1)) + 1 by simp only [List.length_cons]; omega] at hB ⊢
    simp only [Region.lexHead, Bool.and_eq_true] at hB
    obtain ⟨⟨hr, hf⟩, hB'⟩ := hB
    have hk1 : k < n1 := by simp only [List.length_cons] at hk; omega
    have hr' : k ∈ Region.ready md ops listed := by simpa using hr
    obtain ⟨v, hy, hK⟩ := yields_of h
    refine first_quiet h0 hk1 (Region.noSelect_spec hsel) hs hc hn (by omega) (fun listed' a' S' hL => seqB_ready hL.1) _ listed a S inv (Region.free_spec h0 hf) hr' hy ?_
    refine quiet_lex hsel hs hc hn hle l (k + 1) _ _ (fun j hj => by have := hl (j + 1) (by simp; omega); simpa [Nat.add_assoc, Nat.add_comm 1 j] using this) (by simp only [List.length_cons] at hk; omega) (inv.set hr' (by omega)) (fun j hj => ?_) hB' hK
    by_cases hjk : k = j
    · subst hjk
      have hsz : k < listed.size := by rw [inv.size]; omega
      simp [hsz]
    · rw [getD_set_ne true hjk]; exact hq j (by omega)
/-- The first n1 operations read or call, those up to n lay blocks, the others come in a row. -/
theorem wp_region_grow {id : Nat} {Q : Exit → Act → World → Prop} {a : Act} {w : World} {l : List Oper} (n1 n : Nat) (ob : Nat → Obj) (hm : P.follows .mixedOrders = true) (hB : Region.lexTailB .any l.toArray n = true) (hle : n1 ≤ n)
    (hAl : ∀ i, n1 ≤ i → i < n → ∃ o, l.toArray[i]? = some o ∧ o.guard = none ∧ ∀ (a : Act) (w : World), (execOp a.eval o).run P w = .ok (.value (.pointer (some ⟨w.heap.size, 0, none⟩))) (w.alloc (ob i)))
    (hE : Below B.heap.size B w)
    (h : wpE P l.toArray B (fun a' => wpAl l.toArray B (fun a'' S => ∀ w', Below B.heap.size B w' → (∀ i, n1 ≤ i → i < n → B.heap.size ≤ S i ∧ w'.heap[S i]? = some (ob i)) → (∀ i j, n1 ≤ i → i < n → n1 ≤ j → j < n → i ≠ j → S i ≠ S j) →
        wpList P l.toArray Q (l.drop n) a'' w') (n - n1) n1 a' (fun _ => 0)) (l.take n1) a) : (Code.region id l.toArray true).wp P Q a w := by
  simp only [Region.lexTailB, Bool.and_eq_true, decide_eq_true_eq] at hB
  obtain ⟨⟨⟨⟨hsel, hn⟩, hs⟩, hc⟩, hlex⟩ := hB
  have hn' : n < l.length := by simpa using hn
  have htl : (l.take n1).length = n1 := by simp; omega
  have hdl : (l.drop n).length = l.toArray.size - n := by simp
  have inv0 : HeadInv .any l.toArray n (Array.replicate l.toArray.size false) :=
    ⟨by simp, fun j oj _ hl => (by rw [getD_replicate_false] at hl; cases hl), fun t _ ht => getD_in (by simpa using ht) (getD_replicate_false _ _)⟩
  have H := quiet_lex (P := P) (B := B) (md := .any) (n1 := n1) (n := n) (g := l.toArray.size - n) hsel hs hc hn hle (l.take n1) 0 _ a (fun j hj => by
    have hj' : j < n1 := by rw [htl] at hj; exact hj
    simp [hj']) (by simpa using htl) inv0 (fun j hj => by omega) (by rw [htl, show n1 + (n - n1) = n by omega]; exact hlex) h
  refine wp_region_any hm ?_
  have hE' : Below B.heap.size B { w with drawn := w.drawn + 1 } := ⟨hE.os, hE.tape, hE.output, hE.size, hE.block⟩
  have := wpAny_of_wpH (Q' := Q) (g := l.toArray.size - n) hAl (fun listed a' S w' hL hb hf => by
    have := wpAny_of_seq (P := P) (md := .any) (Q' := Q) (l.drop n) n listed a' w' (fun j => by simp [List.getElem?_drop]) (by rw [hdl]; exact hL.1) (hL.2.2 w' hb (fun i h1 h2 => ?_) (fun i j h1 h2 h3 h4 h5 => ?_))
    · rwa [hdl] at this
    · exact hf.1 i h1 h2 (hL.2.1 i h2)
    · exact hf.2 i j h1 h2 h3 h4 (hL.2.1 i h2) (hL.2.1 j h4) h5) _ _ _ _ _ hE' ⟨fun i _ _ h3 => (by rw [getD_replicate_false] at h3; cases h3), fun i j _ _ _ _ h3 => (by rw [getD_replicate_false] at h3; cases h3)⟩ H
  rw [htl, show n1 + (n - n1) + (l.toArray.size - n) = l.toArray.size by omega] at this
  exact this
/-- No blocks: what reads and calls, then a chain. -/
theorem wp_region_tail {id : Nat} {Q : Exit → Act → World → Prop} {a : Act} {w : World} {l : List Oper} (n : Nat) (hm : P.follows .mixedOrders = true) (hB : Region.lexTailB .any l.toArray n = true) (hE : Below B.heap.size B w)
    (h : wpE P l.toArray B (fun a' => ∀ w', Below B.heap.size B w' → wpList P l.toArray Q (l.drop n) a' w') (l.take n) a) : (Code.region id l.toArray true).wp P Q a w := by
  refine wp_region_grow n n (fun _ => .cells #[] 0) hm hB (Nat.le_refl _) (fun i h1 h2 => by omega) hE ?_
  rw [Nat.sub_self]
  have e : (fun a' => wpAl l.toArray B (fun a'' S => ∀ w', Below B.heap.size B w' → (∀ i, n ≤ i → i < n → B.heap.size ≤ S i ∧ w'.heap[S i]? = some (.cells #[] 0)) → (∀ i j, n ≤ i → i < n → n ≤ j → j < n → i ≠ j → S i ≠ S j) → wpList P l.toArray Q (l.drop n) a'' w') 0 n a' (fun _ => 0)) = (fun a' => ∀ w', Below B.heap.size B w' → wpList P l.toArray Q (l.drop n) a' w') := by
    funext a'
    exact propext ⟨fun h w' hb => h w' hb (fun i h1 h2 => by omega) (fun i j h1 h2 => by omega), fun h w' hb _ _ => h w' hb⟩
  rw [e]
  exact h
theorem qE_mono {Q Q' : Act → Prop} (hq : ∀ a, Q a → Q' a) : ∀ (l : List Oper) (a : Act), wpE P ops B Q l a → wpE P ops B Q' l a
  | [], a, h => hq a h
  | o :: l, a, h => by
    unfold wpE at h ⊢
    split
    · rename_i hw; simp only [hw, if_true] at h; exact qeOp_mono (fun a => qE_mono hq l a) h
    · rename_i hw; simp only [hw] at h; exact qE_mono hq l _ h
/-- An alloc's run. -/
abbrev LaysAt (P : Program) (ops : Array Oper) (i : Nat) (ob : Obj) : Prop := ∃ o, ops[i]? = some o ∧ o.guard = none ∧ ∀ (a : Act) (w : World), (execOp a.eval o).run P w = .ok (.value (.pointer (some ⟨w.heap.size, 0, none⟩))) (w.alloc ob)
/-- One block. -/
theorem wp_region_one {id : Nat} {Q : Exit → Act → World → Prop} {a : Act} {w : World} {l : List Oper} (n : Nat) (ob : Obj) (hm : P.follows .mixedOrders = true) (hB : Region.lexTailB .any l.toArray (n + 1) = true) (hA : LaysAt P l.toArray n ob) (hE : Below B.heap.size B w)
    (h : wpE P l.toArray B (fun a' => ∀ h w', Below B.heap.size B w' → B.heap.size ≤ h → w'.heap[h]? = some ob → wpList P l.toArray Q (l.drop (n + 1)) (a'.put ((l.toArray[n]?).bind (·.dst)) (.pointer (some ⟨h, 0, none⟩))) w') (l.take n) a) : (Code.region id l.toArray true).wp P Q a w := by
  refine wp_region_grow n (n + 1) (fun _ => ob) hm hB (by omega) (fun i h1 h2 => (show i = n by omega) ▸ hA) hE ?_
  rw [show n + 1 - n = 1 by omega]
  refine qE_mono (fun a' h1 => ?_) _ _ h
  intro h' hh
  exact fun w' hb hf _ => h1 h' w' hb hh (by have := (hf n (Nat.le_refl _) (by omega)).2; simpa using this)
/-- Two blocks. -/
theorem wp_region_two {id : Nat} {Q : Exit → Act → World → Prop} {a : Act} {w : World} {l : List Oper} (n : Nat) (ob1 ob2 : Obj) (hm : P.follows .mixedOrders = true) (hB : Region.lexTailB .any l.toArray (n + 2) = true) (hA : LaysAt P l.toArray n ob1) (hA2 : LaysAt P l.toArray (n + 1) ob2) (hE : Below B.heap.size B w)
    (h : wpE P l.toArray B (fun a' => ∀ h k w', Below B.heap.size B w' → B.heap.size ≤ h → B.heap.size ≤ k → h ≠ k → w'.heap[h]? = some ob1 → w'.heap[k]? = some ob2 →
        wpList P l.toArray Q (l.drop (n + 2)) ((a'.put ((l.toArray[n]?).bind (·.dst)) (.pointer (some ⟨h, 0, none⟩))).put ((l.toArray[n + 1]?).bind (·.dst)) (.pointer (some ⟨k, 0, none⟩))) w') (l.take n) a) : (Code.region id l.toArray true).wp P Q a w := by
  refine wp_region_grow n (n + 2) (fun i => if i = n then ob1 else ob2) hm hB (by omega) (fun i h1 h2 => ?_) hE ?_
  · rcases (by omega : i = n ∨ i = n + 1) with rfl | rfl
    · simp only [if_true]; exact hA
    · simp only [show ¬ n + 1 = n by omega, if_false]; exact hA2
  rw [show n + 2 - n = 2 by omega]
  refine qE_mono (fun a' h1 => ?_) _ _ h
  intro h' hh k hk
  refine fun w' hb hf hne => h1 h' k w' hb hh hk ?_ ?_ ?_
  · have := hne n (n + 1) (by omega) (by omega) (by omega) (by omega) (by omega)
    simpa using this
  · have := (hf n (Nat.le_refl _) (by omega)).2; simpa using this
  · have := (hf (n + 1) (by omega) (by omega)).2; simpa using this
/-- What a contract gives in any world grown out of B. -/
theorem call_at {f : FuncId} {args0 : Array Value} {v : Value} (h : ∀ w, Calls P f args0 w (fun e w' => e = .returned v ∧ Below w.heap.size w w')) (B : World) (args : Array Value) (d : Nat) (os : Array Obj) (ha : args = args0) :
    Calls P f args (grow (redrawn B d) os) fun e w' => e = .returned v ∧ Ext (grow (redrawn B d) os) w' := by
  subst ha
  exact h _
theorem call_in {f : FuncId} {args0 : Array Value} {v : Value} {B : World} (h : ∀ w, Below B.heap.size B w → Calls P f args0 w (fun e w' => e = .returned v ∧ Below w.heap.size w w')) (args : Array Value) (d : Nat) (os : Array Obj) (ha : args = args0) :
    Calls P f args (grow (redrawn B d) os) fun e w' => e = .returned v ∧ Ext (grow (redrawn B d) os) w' := by
  subst ha
  exact h _ (below_regrown B d os)
/-- All operations read or call: at the base B, wherever the walk stands. -/
theorem wp_region_reads {id : Nat} {Q : Exit → Act → World → Prop} {a : Act} {w : World} {l : List Oper} (hm : P.follows .mixedOrders = true) (hB : Region.lexB .any l.toArray = true) (hE : Below B.heap.size B w)
    (h : wpQuiet P l.toArray (fun w' => ∃ p : Regrown, w' = grow (redrawn B p.d) p.os) (fun a' => ∀ w', (∃ p : Regrown, w' = grow (redrawn B p.d) p.os) → Q .normal a' w') l a) : (Code.region id l.toArray true).wp P Q a w :=
  wp_region_quiet (C := fun w' => ∃ p : Regrown, w' = grow (redrawn B p.d) p.os) hm hB (regrown_of_below ⟨hE.os, hE.tape, hE.output, hE.size, hE.block⟩) (by simpa using h)
theorem call_cl {f : FuncId} {args0 : Array Value} {v : Value} (h : ∀ w, Calls P f args0 w (fun e w' => e = .returned v ∧ Below w.heap.size w w')) (B : World) (args : Array Value) (d : Nat) (os : Array Obj) (ha : args = args0) :
    Calls P f args (grow (redrawn B d) os) fun e w' => e = .returned v ∧ ∃ p : Regrown, w' = grow (redrawn B p.d) p.os := by
  subst ha
  exact Calls.regrown_of (h _)
theorem call_cl_in {f : FuncId} {args0 : Array Value} {v : Value} {B : World} (h : ∀ w, Below B.heap.size B w → Calls P f args0 w (fun e w' => e = .returned v ∧ Below w.heap.size w w')) (args : Array Value) (d : Nat) (os : Array Obj) (ha : args = args0) :
    Calls P f args (grow (redrawn B d) os) fun e w' => e = .returned v ∧ ∃ p : Regrown, w' = grow (redrawn B p.d) p.os := by
  subst ha
  exact Calls.regrown_of (h _ (below_regrown B d os))
/-- The world at hand, told by what is known of it alone. -/
theorem wp_open {C : Code} {Q : Exit → Act → World → Prop} {a : Act} {w : World} (S : World → Prop) (h : S w) (k : ∀ w', S w' → C.wp P Q a w') : C.wp P Q a w := k w h
theorem post_open {f : Func} {Q : Ending → World → Prop} {e : Exit} {a : Act} {w : World} (S : World → Prop) (h : S w) (k : ∀ w', S w' → bodyPost P f Q e a w') : bodyPost P f Q e a w := k w h
/-- A block of B stands in what has grown out of B. -/
theorem blk_grow {g : Nat} {o : Obj} (h : B.heap[g]? = some o) (d : Nat) (os : Array Obj) : (grow (redrawn B d) os).heap[g]? = some o := by
  rw [(below_regrown B d os).block _ (Array.getElem?_eq_some_iff.1 h).1]; exact h
theorem blk_later {w : World} {g : Nat} {o : Obj} (h : B.heap[g]? = some o) (hb : Below B.heap.size B w) : w.heap[g]? = some o := by
  rw [hb.block _ (Array.getElem?_eq_some_iff.1 h).1]; exact h
end
end Go.Proofs.Ytcjaepmecihmlaa.Reg
