/- What the reference's GetPolicy reads of any bytes. -/
import Derived.Test.YtlhoaejkjhdlgaaRefSt
import Derived.Test.YtlhoaejkjhdlgaaMayPure
namespace Go.Proofs.Ytlhoaejkjhdlgaa.RefGet
open Go Go.RowKit Go.Proofs.Ytlhoaejkjhdlgaa.PPolicyBytes Go.Proofs.YtlhoaejkjhdlgaaW.PrintWords Go.Proofs.YtlhoaejkjhdlgaaW.PrintLast Go.Proofs.YtlhoaejkjhdlgaaW.PrintMore Go.Proofs.Ytlhoaejkjhdlgaa.Reader Go.Proofs.Ytlhoaejkjhdlgaa.RefRd Go.Proofs.Ytlhoaejkjhdlgaa.Good Go.Proofs.Ytlhoaejkjhdlgaa.Get Go.Proofs.Ytlhoaejkjhdlgaa.PutPure Go.Proofs.Ytlhoaejkjhdlgaa.MayPure
set_option linter.unusedVariables false
set_option linter.unusedSimpArgs false
theorem conv_R {w : World} {base : Nat} {ok : Nat → Prop} {v : Value} {xs : List Int} (h : Kd.R (Kd.int .u8) 5 w base ok v xs) : (convert 30 9 v).run Try.prog w = .ok (.string (strOfNums xs)) w := by
  obtain ⟨A, c, hv, hl, hc⟩ := Kd.R_reads h
  subst hv
  exact Kd.C_string Try.underlying30 Try.underlying5 Try.underlying9 hc
theorem refP_no {L : List Int} (h : ¬ isP L) : refP L = (false, [], [], false) := by rw [refP, if_neg h]
/-- No policy: the answer. -/
theorem fin_no {W w : World} {L : List Int} (h : ¬ isP L) (hb : Below W.heap.size W w) (h2 : w.heap[W.heap.size]? = some (.cells #[.bool false, .slice none 0 0, .slice none 0 0] 46 (0, 0))) (tm : Array Value) (e2 : tm.getD 2 undef = .pointer (some ⟨W.heap.size, 0, none⟩)) (e3 : tm.getD 3 undef = .bool false) :
    bodyPost Try.prog Try.f16 (RefPost W L) Exit.ret ⟨tm, []⟩ (((w.setCell ⟨W.heap.size, 0, none⟩ (.bool false)).setCell ⟨W.heap.size, 1, none⟩ (.slice none 0 0)).setCell ⟨W.heap.size, 2, none⟩ (.slice none 0 0)) := by
  have hw := blk_set (blk_set (blk_set h2 0 (.bool false)) 1 (.slice none 0 0)) 2 (.slice none 0 0)
  refine bodyPost_ret (results_ct (P := Try.prog) (ty := 46) (p := 2) (u := 3) rfl tm _ W.heap.size 46 #[.bool false, .slice none 0 0, .slice none 0 0] (0, 0) _ e2 (by simpa using hw) Try.underlying46 rfl (by kernel_rfl)) rfl ?_
  rw [e3]
  have e := refP_no h
  refine ⟨.slice none 0 0, .slice none 0 0, by rw [e], by rw [e]; exact Kd.R_nil _ _ _ _ _, by rw [e]; exact Kd.R_nil _ _ _ _ _, ?_⟩
  exact ((hb.setCell (Nat.le_refl _) _).setCell (Nat.le_refl _) _).setCell (Nat.le_refl _) _
/-- The head of a policy is three bytes. -/
theorem head_of {L : List Int} (hL : Bytes L) (h3 : 3 ≤ L.length) : (L.drop 0).take 3 = [B L 0, B L 1, B L 2] := by
  obtain ⟨a, b, c, r, rfl⟩ : ∃ a b c r, L = a :: b :: c :: r := by
    match L, h3 with
    | a :: b :: c :: r, _ => exact ⟨a, b, c, r, rfl⟩
  rfl
set_option maxHeartbeats 4000000 in
set_option maxRecDepth 100000 in
theorem get_ref (W : World) (L : List Int) (A : Option Addr) (c : Nat) (hL : Bytes L) (hl : L.length ≤ 600) (hr : Kd.C (Kd.int .u8) W A L.length L) (hc : L.length ≤ c) :
    Calls Try.prog 16 #[.slice A L.length c] W (RefPost W L) := by
  have HR := Lib.hid hr
  have HCc := Lib.hid hc
  have HL := Lib.hid hL
  have HLL : Hid (L.length ≤ 1000000) := Lib.hid (by omega)
  clear hr hc hL
  obtain ⟨wb, hwb⟩ : ∃ wb, wb = (W.alloc (Obj.cells #[Value.bool false, Value.slice none 0 0, Value.slice none 0 0] 46)).alloc (Obj.cells #[Value.slice A L.length c, .int .i64 0, Value.bool false] 67) := ⟨_, rfl⟩
  obtain ⟨gr, hgr⟩ : ∃ gr, gr = W.heap.size + 1 := ⟨_, rfl⟩
  have hB : Below W.heap.size W wb := by rw [hwb]; exact below_alloc (below_alloc (Below.refl _ _) _) _
  have h2 : wb.heap[W.heap.size]? = some (.cells #[Value.bool false, Value.slice none 0 0, Value.slice none 0 0] 46 (0, 0)) := by rw [hwb]; exact blk_alloc (blk_new W _) _
  have hg : wb.heap[gr]? = some (rdB A L c 0 false) := by
    rw [hwb, hgr]
    have := blk_new (W.alloc (Obj.cells #[Value.bool false, Value.slice none 0 0, Value.slice none 0 0] 46)) (Obj.cells #[Value.slice A L.length c, .int .i64 0, Value.bool false] 67)
    simpa [rdB] using this
  go_enter Try.func16, Try.ntmps16
  go_wp2_with fail
  rw [← hwb, ← hgr]
  by_cases hsh : L.length < 3
  · have C := bytes_short (n := 3) hg HLL.out (Nat.zero_le _) (by decide) (by omega)
    rw [show ((3 : Nat) : Int) = 3 from rfl] at C
    refine C.mono ?_
    clear C
    rintro e w1 ⟨rfl, mq, hw1⟩
    have hne : gr ≠ W.heap.size := by omega
    have b1 : Below W.heap.size W w1 := by rw [hw1]; exact (pw_below_drewN hB mq).setCell (by show W.heap.size ≤ gr; omega) _
    have k2 : w1.heap[W.heap.size]? = some (.cells #[Value.bool false, Value.slice none 0 0, Value.slice none 0 0] 46 (0, 0)) := by rw [hw1]; exact blk_far (blk_below h2 (pw_below_drewN (Below.refl _ _) mq)) (fun e => hne e.symm) _
    have cv := conv_R (w := w1) (Kd.R_nil (Kd.int .u8) 5 w1 0 (fun _ => True))
    have sv : strOfNums [] = (⟨#[]⟩ : ByteArray) := rfl
    rw [sv] at cv
    have NP : Hid (¬ isP L) := Lib.hid (fun h => by have := h.1; omega)
    have t0 := (blk_cell k2 0).trans rfl
    have t1 := (blk_cell k2 1).trans rfl
    have t2 := (blk_cell k2 2).trans rfl
    have s0 := blk_frozen k2 0
    have s1 := blk_frozen k2 1
    have s2 := blk_frozen k2 2
    have hu46 := Try.underlying46
    have K2 := Lib.hid (And.intro k2 b1)
    clear k2 b1 hw1 hwb hgr h2 hg hB
    go_wp2
    exact fin_no NP.out K2.out.2 K2.out.1 _ rfl rfl
  · obtain ⟨ad, rfl⟩ : ∃ ad, A = some ad := by
      obtain ⟨ad, e, _⟩ := HR.out.2.2 (by omega)
      exact ⟨ad, e⟩
    have C := bytes_some (n := 3) ad hg HR.out hB (by omega) HCc.out HLL.out (by omega)
    rw [show ((3 : Nat) : Int) = 3 from rfl, head_of HL.out (by omega)] at C
    refine C.mono ?_
    clear C
    rintro e w1 ⟨v, rfl, q1, q2, q3, q4⟩
    have NEr : gr ≠ W.heap.size := by omega
    have k2 : w1.heap[W.heap.size]? = some (.cells #[Value.bool false, Value.slice none 0 0, Value.slice none 0 0] 46 (0, 0)) := q4.blk h2 NEr.symm (by simp)
    have cv := conv_R q1
    obtain ⟨Av, nv, cv', rfl⟩ : ∃ A n c, v = .slice A n c := by obtain ⟨A, c, e, _⟩ := Kd.R_reads q1; exact ⟨_, _, _, e⟩
    obtain ⟨hd, hhd⟩ : ∃ hd : ByteArray, hd = strOfNums [B L 0, B L 1, B L 2] := ⟨_, rfl⟩
    rw [← hhd] at cv
    have HHD := Lib.hid hhd
    have I3 : Hid (IsS67 W w1 gr L ((3 : Nat) : Int) false) := Lib.hid ⟨_, _, q2, by omega, HR.out⟩
    have K2 := Lib.hid (And.intro k2 q3)
    have NE := Lib.hid NEr
    have GE : Hid (W.heap.size ≤ gr) := Lib.hid (by omega)
    have h3l : 3 ≤ L.length := by omega
    have hbv : ∀ i, 0 ≤ B L i ∧ B L i ≤ 255 := fun i => (HL.out.drop _).head
    have HBV := Lib.hid hbv
    clear q1 q2 q3 q4 hwb hgr h2 hg hB hhd NEr hsh hbv
    by_cases h3 : hd.toList = [84, 80, 49]
    · have H3 : Hid (B L 0 = 84 ∧ B L 1 = 80 ∧ B L 2 = 49) := Lib.hid ((head_iff (HBV.out 0) (HBV.out 1) (HBV.out 2)).1 (by rw [← HHD.out]; exact h3))
      clear HHD k2
      have S0 : Hid (TS W (w1.alloc (Obj.cells #[Value.bool false, Value.slice none 0 0, Value.slice none 0 0] 46)) gr w1.heap.size W.heap.size L 3 false (.slice none 0 0) (.slice none 0 0) [] []) := by
        have hx := below_alloc (Below.refl w1.heap.size w1) (Obj.cells #[Value.bool false, Value.slice none 0 0, Value.slice none 0 0] 46)
        have hlt := I3.out.lt
        have hlt2 := blk_lt K2.out.1
        have ge := GE.out
        have ne := NE.out
        have hs := K2.out.2.size
        exact Lib.hid ⟨⟨3, false, I3.out.below hx, .inl ⟨rfl, rfl, h3l⟩⟩, blk_new _ _, blk_below K2.out.1 hx, Kd.R_nil _ _ _ _ _, Kd.R_nil _ _ _ _ _, below_step K2.out.2 hx, ⟨by omega, by omega, by omega⟩, ⟨by omega, by omega, by omega⟩⟩
      obtain ⟨md, hmd⟩ : ∃ md, gotV L 3 1 = md := ⟨_, rfl⟩
      obtain ⟨nn, hnn⟩ : ∃ nn : Nat, gotV L 4 1 = (nn : Int) := ⟨(gotV L 4 1).toNat, by have := (gotV_bound HL.out 4 1).1; omega⟩
      have md0 : 0 ≤ md ∧ md < 256 := by rw [← hmd]; exact gotV_bound HL.out 3 1
      have nn0 : nn < 256 := by have := (gotV_bound HL.out 4 1).2; rw [hnn] at this; omega
      have C := S0.out.num HL.out HLL.out 1 (by decide)
      rw [show ((1 : Nat) : Int) = 1 from rfl, hmd] at C
      have MD := Lib.hid hmd
      have NN := Lib.hid hnn
      clear hmd hnn S0 K2 I3
      go_wp2_with fail
      clear cv
      generalize w1.heap.size = gp at *
      refine C.mono ?_
      clear C
      rintro e w2 ⟨rfl, q1⟩
      have d0 := (blk_cell q1.hp 0).trans rfl
      have d1 := blk_frozen q1.hp 0
      have q2 := q1.flag (md == 1)
      have C := q2.num HL.out HLL.out 1 (by decide)
      rw [show ((1 : Nat) : Int) = 1 from rfl, NN.out] at C
      clear q1 q2
      go_wp2_with fail
      refine C.mono ?_
      clear C
      rintro e w3 ⟨rfl, q1⟩
      have S1 : Hid (∃ A1 n1 c1 xs, TS W w3 gr gp W.heap.size L (5 + 10 * 0) (md == 1) (.slice A1 n1 c1) (.slice none 0 0) xs [] ∧ xs.length ≤ 0 ∧ (5 + 10 * 0 ≤ L.length → xs = (srcs L 0).map cS)) := Lib.hid ⟨_, _, _, _, q1, Nat.le_refl _, fun _ => rfl⟩
      clear q1 d0 d1
      go_wp2
      have CA : Hid (cntA L = nn) := Lib.hid (by have h := NN.out; rw [gotV_one] at h; unfold cntA; rw [h]; omega)
      obtain ⟨ptr, hptr⟩ : ∃ ptr, ptr = (md == 1) := ⟨_, rfl⟩
      rw [← hptr] at S1
      have HPT := Lib.hid hptr
      clear hptr
      go_loopw [8] (fun i wr => ∃ j : Nat, j ≤ nn ∧ i = .int .u32 j ∧ Hid (∃ A1 n1 c1 xs, TS W wr gr gp W.heap.size L (5 + 10 * j) ptr (.slice A1 n1 c1) (.slice none 0 0) xs [] ∧ xs.length ≤ j ∧ (5 + 10 * j ≤ L.length → xs = (srcs L j).map cS))) (fun i _ => nn - (intOf i).toNat)
      case atStart => exact ⟨0, by omega, rfl, S1⟩
      case round =>
        obtain ⟨j, hj, rfl, hS⟩ := hrel
        clear S1
        obtain ⟨A1, n1, c1, xs, S2, hxl, hxe⟩ := hS.out
        have SB := Lib.hid S2
        have HXE := Lib.hid hxe
        have hb := S2.badc
        clear S2 hxe hS
        by_cases hbad : L.length < 5 + 10 * j
        · have hb1 : wr.cell? ⟨gr, 2, none⟩ = some (.bool true) := by rw [hb, decide_eq_true hbad]
          have SE := Lib.hid (SB.out.on (K' := 5 + 10 * nn) (by omega) hbad)
          have C := SE.out.num HL.out HLL.out 1 (by decide)
          have hg0 : gotV L (5 + 10 * nn) 1 = 0 := by unfold gotV; rw [if_pos (by omega)]
          rw [show ((1 : Nat) : Int) = 1 from rfl, hg0] at C
          have CB : Hid (cntB L = 0) := Lib.hid (by rw [gotV_one] at hg0; unfold cntB; rw [CA.out, hg0]; rfl)
          clear hb SB HXE hg0
          by_cases hlt : j < nn
          · go_wp2_with fail
            refine C.mono ?_
            clear C
            rintro e w4 ⟨rfl, q1⟩
            have S9 := Lib.hid (q1.on (K' := 6 + 10 * nn) (by omega) (by omega))
            clear q1 SE hb1
            go_wp2
            go_loopw [9] (fun i wq => i = .int .u32 0 ∧ Hid (TS W wq gr gp W.heap.size L (6 + 10 * nn) ptr (.slice A1 n1 c1) (.slice none 0 0) xs [])) (fun _ _ => 0)
            case atStart => exact ⟨rfl, S9⟩
            case round =>
              obtain ⟨rfl, S8⟩ := hrel
              clear S9
              have S9 := S8
              clear S8
              have hb1 : World.cell? _ ⟨gr, 2, none⟩ = some (.bool true) := S9.out.badc.trans (by rw [decide_eq_true (by omega)])
              have NP : Hid (¬ isP L) := Lib.hid (fun h => by have := h.1; rw [CA.out, CB.out] at this; omega)
              have t0 := (blk_cell S9.out.h2 0).trans rfl
              have t1 := (blk_cell S9.out.h2 1).trans rfl
              have t2 := (blk_cell S9.out.h2 2).trans rfl
              have s0 := blk_frozen S9.out.h2 0
              have s1 := blk_frozen S9.out.h2 1
              have s2 := blk_frozen S9.out.h2 2
              have hu46 := Try.underlying46
              go_wp2
              exact fin_no NP.out S9.out.hB S9.out.h2 _ rfl rfl
          · go_wp2_with fail
            refine C.mono ?_
            clear C
            rintro e w4 ⟨rfl, q1⟩
            have S9 := Lib.hid (q1.on (K' := 6 + 10 * nn) (by omega) (by omega))
            clear q1 SE hb1
            go_wp2
            go_loopw [9] (fun i wq => i = .int .u32 0 ∧ Hid (TS W wq gr gp W.heap.size L (6 + 10 * nn) ptr (.slice A1 n1 c1) (.slice none 0 0) xs [])) (fun _ _ => 0)
            case atStart => exact ⟨rfl, S9⟩
            case round =>
              obtain ⟨rfl, S8⟩ := hrel
              clear S9
              have S9 := S8
              clear S8
              have hb1 : World.cell? _ ⟨gr, 2, none⟩ = some (.bool true) := S9.out.badc.trans (by rw [decide_eq_true (by omega)])
              have NP : Hid (¬ isP L) := Lib.hid (fun h => by have := h.1; rw [CA.out, CB.out] at this; omega)
              have t0 := (blk_cell S9.out.h2 0).trans rfl
              have t1 := (blk_cell S9.out.h2 1).trans rfl
              have t2 := (blk_cell S9.out.h2 2).trans rfl
              have s0 := blk_frozen S9.out.h2 0
              have s1 := blk_frozen S9.out.h2 1
              have s2 := blk_frozen S9.out.h2 2
              have hu46 := Try.underlying46
              go_wp2
              exact fin_no NP.out S9.out.hB S9.out.h2 _ rfl rfl
        · have hb1 : wr.cell? ⟨gr, 2, none⟩ = some (.bool false) := by rw [hb, decide_eq_false hbad]
          clear hb
          by_cases hlt : j < nn
          · obtain ⟨x0, hx0⟩ : ∃ x, gotV L (5 + 10 * j) 1 = x := ⟨_, rfl⟩
            obtain ⟨x1, hx1⟩ : ∃ x, gotV L (5 + 10 * j + 1) 4 = x := ⟨_, rfl⟩
            obtain ⟨x2, hx2⟩ : ∃ x, gotV L (5 + 10 * j + 1 + 4) 4 = x := ⟨_, rfl⟩
            obtain ⟨x3, hx3⟩ : ∃ x, gotV L (5 + 10 * j + 1 + 4 + 4) 1 = x := ⟨_, rfl⟩
            have y0 : 0 ≤ x0 ∧ x0 < 256 := by rw [← hx0]; exact gotV_bound HL.out _ 1
            have y3 : 0 ≤ x3 ∧ x3 < 256 := by rw [← hx3]; exact gotV_bound HL.out _ 1
            have u0 : IntKind.i64.wrap x0 = x0 := IntWalk.i64_in _ (by omega)
            have u3 : IntKind.u8.wrap x3 = x3 := by rw [IntKind.wrap_u8]; omega
            have u4 : x3 % 256 = x3 := by omega
            have HX3 := Lib.hid hx0
            have HX6 := Lib.hid hx1
            have HX8 := Lib.hid hx2
            have HX10 := Lib.hid hx3
            have HXL : Hid ((xs.length + 1) * 24 ≤ 140737488355328) := Lib.hid (by omega)
            have HNEW : Hid (5 + 10 * (j + 1) ≤ L.length → xs ++ [⟨x0, x1, x2, x3⟩] = (srcs L (j + 1)).map cS) := Lib.hid (fun hle => by
              rw [HXE.out (by omega), srcs_succ, List.map_append, List.map_singleton, ← rsrc_eq (by omega)]
              unfold rsrc
              rw [hx0, hx1, show 5 + 10 * j + 5 = 5 + 10 * j + 1 + 4 by omega, hx2, show 5 + 10 * j + 9 = 5 + 10 * j + 1 + 4 + 4 by omega, hx3])
            have HXX := Lib.hid hxl
            clear hx0 hx1 hx2 hx3 HXE hxl
            go_wp2
            have SD := Lib.hid (SB.out.below (below_drew (Below.refl _ _)))
            have d1 : (World.drew wr).cell? ⟨gp, 1, none⟩ = some (.slice A1 n1 c1) := (blk_cell SD.out.hp 1).trans rfl
            clear SB hb1
            refine start_ (n := 17) (S := fun w' => w'.cell? ⟨gp, 1, none⟩ = some (.slice A1 n1 c1)) (ds := [16]) #[false, false, false, false, false, false, false, false, false, false, false, false, false, false, false, false, false] (by kernel_rfl) rfl rfl (d1) (fun hHeld => ?_)
            refine pure_ (i := 0) (N := some 38) (v := ?_) (a' := ?_) #[true, false, false, false, false, false, false, false, false, false, false, false, false, false, false, false, false] rfl rfl (by kernel_rfl) (fun _ _ _ h => h) (Or.inl ⟨by rfl, ?_⟩) ?_ ?_
            rotate_left
            · intro w'
              go_simp
              with_reducible rfl
            rotate_left
            · simp only [Act.put, List.setIfInBounds_toArray, List.set_cons_zero, List.set_cons_succ, i64_w, i32_w]
              rfl
            refine pure_ (i := 2) (N := some 40) (v := ?_) (a' := ?_) #[true, false, true, false, false, false, false, false, false, false, false, false, false, false, false, false, false] rfl rfl (by kernel_rfl) (fun _ _ _ h => h) (Or.inl ⟨by rfl, ?_⟩) ?_ ?_
            rotate_left
            · intro w'
              go_simp
              with_reducible rfl
            rotate_left
            · simp only [Act.put, List.setIfInBounds_toArray, List.set_cons_zero, List.set_cons_succ, i64_w, i32_w]
              rfl
            refine pure_ (i := 5) (N := some 43) (v := ?_) (a' := ?_) #[true, false, true, false, false, true, false, false, false, false, false, false, false, false, false, false, false] rfl rfl (by kernel_rfl) (fun _ _ _ h => h) (Or.inl ⟨by rfl, ?_⟩) ?_ ?_
            rotate_left
            · intro w'
              go_simp
              with_reducible rfl
            rotate_left
            · simp only [Act.put, List.setIfInBounds_toArray, List.set_cons_zero, List.set_cons_succ, i64_w, i32_w]
              rfl
            refine pure_ (i := 7) (N := some 45) (v := ?_) (a' := ?_) #[true, false, true, false, false, true, false, true, false, false, false, false, false, false, false, false, false] rfl rfl (by kernel_rfl) (fun _ _ _ h => h) (Or.inl ⟨by rfl, ?_⟩) ?_ ?_
            rotate_left
            · intro w'
              go_simp
              with_reducible rfl
            rotate_left
            · simp only [Act.put, List.setIfInBounds_toArray, List.set_cons_zero, List.set_cons_succ, i64_w, i32_w]
              rfl
            refine pure_ (i := 9) (N := some 47) (v := ?_) (a' := ?_) #[true, false, true, false, false, true, false, true, false, true, false, false, false, false, false, false, false] rfl rfl (by kernel_rfl) (fun _ _ _ h => h) (Or.inl ⟨by rfl, ?_⟩) ?_ ?_
            rotate_left
            · intro w'
              go_simp
              with_reducible rfl
            rotate_left
            · simp only [Act.put, List.setIfInBounds_toArray, List.set_cons_zero, List.set_cons_succ, i64_w, i32_w]
              rfl
            refine take_ (i := 1) (N := some 39) (v := ?_) (a' := ?_) #[true, true, true, false, false, true, false, true, false, true, false, false, false, false, false, false, false] rfl rfl (by kernel_rfl) (fun _ _ _ h => h) (Or.inl ⟨by rfl, ?_⟩) hHeld ?_ ?_
            rotate_left
            · intro w' s0
              go_simp
              with_reducible rfl
            rotate_left
            · simp only [Act.put, List.setIfInBounds_toArray, List.set_cons_zero, List.set_cons_succ, i64_w, i32_w]
              rfl
            refine one_ (i := 3) (N := some 41) #[true, true, true, true, false, true, false, true, false, true, false, false, false, false, false, false, false] rfl rfl (by kernel_rfl) (by decide) (fun K hK => ?_)
            refine goes_ Try.func28 (by kernel_rfl) rfl #[.pointer (some ⟨gr, 0, none⟩), .int .i64 1] (by rfl) rfl rfl (by simp only [List.map_toArray, List.map_cons, List.map_nil]; rfl) ?_
            have C := SD.out.num HL.out HLL.out 1 (by decide)
            rw [show ((1 : Nat) : Int) = 1 from rfl, HX3.out] at C
            refine C.mono ?_
            clear C
            rintro e w2 ⟨rfl, q1⟩
            have S2 := Lib.hid q1
            have d_w2 : w2.cell? ⟨gp, 1, none⟩ = some (.slice A1 n1 c1) := (blk_cell q1.hp 1).trans rfl
            clear q1 SD
            refine ⟨_, rfl, ?_⟩
            refine hK.out _ _ (d_w2) (fun hHeld => ?_)
            clear hK K
            refine norm_ (a' := ?_) ?_ ?_
            rotate_left
            · show Act.put _ (some 41) _ = _
              simp only [Act.put, List.setIfInBounds_toArray, List.set_cons_zero, List.set_cons_succ, i64_w, i32_w]
              rfl
            refine pure_ (i := 4) (N := some 42) (v := ?_) (a' := ?_) #[true, true, true, true, true, true, false, true, false, true, false, false, false, false, false, false, false] rfl rfl (by kernel_rfl) (fun _ _ _ h => h) (Or.inl ⟨by rfl, ?_⟩) ?_ ?_
            rotate_left
            · intro w'
              go_simp
              with_reducible rfl
            rotate_left
            · simp only [Act.put, List.setIfInBounds_toArray, List.set_cons_zero, List.set_cons_succ, i64_w, i32_w]
              rfl
            refine one_ (i := 6) (N := some 44) #[true, true, true, true, true, true, true, true, false, true, false, false, false, false, false, false, false] rfl rfl (by kernel_rfl) (by decide) (fun K hK => ?_)
            refine goes_ Try.func28 (by kernel_rfl) rfl #[.pointer (some ⟨gr, 0, none⟩), .int .i64 4] (by rfl) rfl rfl (by simp only [List.map_toArray, List.map_cons, List.map_nil]; rfl) ?_
            have C := S2.out.num HL.out HLL.out 4 (by decide)
            rw [show ((4 : Nat) : Int) = 4 from rfl, HX6.out] at C
            refine C.mono ?_
            clear C
            rintro e w3 ⟨rfl, q1⟩
            have S3 := Lib.hid q1
            have d_w3 : w3.cell? ⟨gp, 1, none⟩ = some (.slice A1 n1 c1) := (blk_cell q1.hp 1).trans rfl
            clear q1 S2
            refine ⟨_, rfl, ?_⟩
            refine hK.out _ _ (d_w3) (fun hHeld => ?_)
            clear hK K
            refine norm_ (a' := ?_) ?_ ?_
            rotate_left
            · show Act.put _ (some 44) _ = _
              simp only [Act.put, List.setIfInBounds_toArray, List.set_cons_zero, List.set_cons_succ, i64_w, i32_w]
              rfl
            refine one_ (i := 8) (N := some 46) #[true, true, true, true, true, true, true, true, true, true, false, false, false, false, false, false, false] rfl rfl (by kernel_rfl) (by decide) (fun K hK => ?_)
            refine goes_ Try.func28 (by kernel_rfl) rfl #[.pointer (some ⟨gr, 0, none⟩), .int .i64 4] (by rfl) rfl rfl (by simp only [List.map_toArray, List.map_cons, List.map_nil]; rfl) ?_
            have C := S3.out.num HL.out HLL.out 4 (by decide)
            rw [show ((4 : Nat) : Int) = 4 from rfl, HX8.out] at C
            refine C.mono ?_
            clear C
            rintro e w4 ⟨rfl, q1⟩
            have S4 := Lib.hid q1
            have d_w4 : w4.cell? ⟨gp, 1, none⟩ = some (.slice A1 n1 c1) := (blk_cell q1.hp 1).trans rfl
            clear q1 S3
            refine ⟨_, rfl, ?_⟩
            refine hK.out _ _ (d_w4) (fun hHeld => ?_)
            clear hK K
            refine norm_ (a' := ?_) ?_ ?_
            rotate_left
            · show Act.put _ (some 46) _ = _
              simp only [Act.put, List.setIfInBounds_toArray, List.set_cons_zero, List.set_cons_succ, i64_w, i32_w]
              rfl
            refine one_ (i := 10) (N := some 48) #[true, true, true, true, true, true, true, true, true, true, true, false, false, false, false, false, false] rfl rfl (by kernel_rfl) (by decide) (fun K hK => ?_)
            refine goes_ Try.func28 (by kernel_rfl) rfl #[.pointer (some ⟨gr, 0, none⟩), .int .i64 1] (by rfl) rfl rfl (by simp only [List.map_toArray, List.map_cons, List.map_nil]; rfl) ?_
            have C := S4.out.num HL.out HLL.out 1 (by decide)
            rw [show ((1 : Nat) : Int) = 1 from rfl, HX10.out] at C
            refine C.mono ?_
            clear C
            rintro e w5 ⟨rfl, q1⟩
            have S5 := Lib.hid q1
            have d_w5 : w5.cell? ⟨gp, 1, none⟩ = some (.slice A1 n1 c1) := (blk_cell q1.hp 1).trans rfl
            clear q1 S4
            refine ⟨_, rfl, ?_⟩
            refine hK.out _ _ (d_w5) (fun hHeld => ?_)
            clear hK K
            refine norm_ (a' := ?_) ?_ ?_
            rotate_left
            · show Act.put _ (some 48) _ = _
              simp only [Act.put, List.setIfInBounds_toArray, List.set_cons_zero, List.set_cons_succ, i64_w, i32_w]
              rfl
            refine pure_ (i := 11) (N := some 49) (v := ?_) (a' := ?_) #[true, true, true, true, true, true, true, true, true, true, true, true, false, false, false, false, false] rfl rfl (by kernel_rfl) (fun _ _ _ h => h) (Or.inl ⟨by rfl, ?_⟩) ?_ ?_
            rotate_left
            · intro w'
              go_simp
              with_reducible rfl
            rotate_left
            · simp only [Act.put, List.setIfInBounds_toArray, List.set_cons_zero, List.set_cons_succ, i64_w, i32_w]
              rfl
            refine pure_ (i := 12) (N := some 50) (v := ?_) (a' := ?_) #[true, true, true, true, true, true, true, true, true, true, true, true, true, false, false, false, false] rfl rfl (by kernel_rfl) (fun _ _ _ h => h) (Or.inl ⟨by rfl, ?_⟩) ?_ ?_
            rotate_left
            · intro w'
              go_simp
              with_reducible rfl
            rotate_left
            · simp only [Act.put, List.setIfInBounds_toArray, List.set_cons_zero, List.set_cons_succ, i64_w, i32_w]
              rfl
            refine one_ (i := 13) (N := some 51) #[true, true, true, true, true, true, true, true, true, true, true, true, true, true, false, false, false] rfl rfl (by kernel_rfl) (by decide) (fun K hK => ?_)
            refine value_ (w1 := ?_) (v := ?_) (by rfl) rfl ?_ ?_
            rotate_left 2
            · go_simp
              constructor
              · rfl
              · rfl
            have d6 : (w5.alloc (.cells #[.int .i64 x0, .int .u32 x1, .int .u32 x2, .int .u8 x3] 70)).cell? ⟨gp, 1, none⟩ = some (.slice A1 n1 c1) := (blk_cell (blk_alloc S5.out.hp _) 1).trans rfl
            refine hK.out _ _ (d6) (fun hHeld => ?_)
            clear hK K
            refine norm_ (a' := ?_) ?_ ?_
            rotate_left
            · show Act.put _ (some 51) _ = _
              simp only [Act.put, List.setIfInBounds_toArray, List.set_cons_zero, List.set_cons_succ, i64_w, i32_w]
              rfl
            refine one_ (i := 14) (N := some 52) #[true, true, true, true, true, true, true, true, true, true, true, true, true, true, true, false, false] rfl rfl (by kernel_rfl) (by decide) (fun K hK => ?_)
            refine Kd.R_append_step k70 (w0 := W) W.heap.size (by rfl) (.tmp 39) (.tmp 51) 43 70 (.agg #[(.int .i64 0), (.int .u32 0), (.int .u32 0), (.int .u8 0)]) 24 rfl Try.underlying43 info70 rfl (by decide) (by decide) (.slice A1 n1 c1) xs ⟨x0, x1, x2, x3⟩ [.int .i64 x0, .int .u32 x1, .int .u32 x2, .int .u8 x3] (fun k => k ≠ gr ∧ k ≠ gp ∧ k ≠ W.heap.size) (fun _ => False) rfl rfl ?aP (fun _ hk => hk.elim) ?aF ?aO ?aB ?aS ?aL ?_
            case aP => exact k70_mkM _ _ _ ⟨x0, x1, x2, x3⟩
            case aF => exact S5.out.fresh
            case aO => exact S5.out.hr1
            case aB => exact S5.out.hB
            case aS => exact S5.out.hB.size
            case aL => have := HXL.out; omega
            intro v6 w6 q1 q2 q3 q4
            obtain ⟨A6, n6, c6, rfl⟩ : ∃ A n c, v6 = .slice A n c := by obtain ⟨A, c, e, _⟩ := Kd.R_reads q1; exact ⟨_, _, _, e⟩
            have S6 := Lib.hid (S5.out.app1 q1 q2 q3)
            have e1 : w6.cell? ⟨gp, 1, none⟩ = some (.slice A1 n1 c1) := (blk_cell (blk_grown S5.out.hp q3 (S5.out.row1 gp (by omega))) 1).trans rfl
            have e2 : w6.frozen? ⟨gp, 1, none⟩ = false := blk_frozen (blk_grown S5.out.hp q3 (S5.out.row1 gp (by omega))) 1
            clear q1 q2 q3 q4 S5 d6
            refine hK.out _ _ (e1) (fun hHeld => ?_)
            clear hK K
            refine norm_ (a' := ?_) ?_ ?_
            rotate_left
            · show Act.put _ (some 52) _ = _
              simp only [Act.put, List.setIfInBounds_toArray, List.set_cons_zero, List.set_cons_succ, i64_w, i32_w]
              rfl
            refine pure_ (i := 15) (N := some 53) (v := ?_) (a' := ?_) #[true, true, true, true, true, true, true, true, true, true, true, true, true, true, true, true, false] rfl rfl (by kernel_rfl) (fun _ _ _ h => h) (Or.inl ⟨by rfl, ?_⟩) ?_ ?_
            rotate_left
            · intro w'
              go_simp
              with_reducible rfl
            rotate_left
            · simp only [Act.put, List.setIfInBounds_toArray, List.set_cons_zero, List.set_cons_succ, i64_w, i32_w]
              rfl
            refine last_ (i := 16) (N := none) #[true, true, true, true, true, true, true, true, true, true, true, true, true, true, true, true, true] rfl rfl (by kernel_rfl) (by decide) (fun K hK => ?_)
            refine skip_ (w1 := ?_) (by rfl) rfl ?_ ?_
            rotate_left
            · go_simp
              rfl
            refine hK.out _ _ ?_
            clear hK K
            refine done_ (by kernel_rfl) ?_
            obtain ⟨w7, hw7⟩ : ∃ w7, w7 = w6.setCell ⟨gp, 1, none⟩ (.slice A6 n6 c6) := ⟨_, rfl⟩
            rw [← hw7] at S6 ⊢
            have S7 : Hid (∃ A1 n1 c1 xs, TS W w7 gr gp W.heap.size L (5 + 10 * (j + 1)) ptr (.slice A1 n1 c1) (.slice none 0 0) xs [] ∧ xs.length ≤ j + 1 ∧ (5 + 10 * (j + 1) ≤ L.length → xs = (srcs L (j + 1)).map cS)) := Lib.hid ⟨A6, n6, c6, xs ++ [⟨x0, x1, x2, x3⟩], by have := S6.out; rw [show 5 + 10 * j + 1 + 4 + 4 + 1 = 5 + 10 * (j + 1) from by omega] at this; exact this, by rw [List.length_append, List.length_singleton]; have := HXX.out; omega, HNEW.out⟩
            clear S6 hw7 e1 e2 hHeld HNEW HXX HXL HX3 HX6 HX8 HX10
            go_wp2
            go_roundw
            case rel => exact ⟨j + 1, by omega, by go_num, S7⟩
            case measure => simp [intOf]; omega
          · have hje : j = nn := by omega
            subst hje
            have HXS : Hid (xs = (srcs L j).map cS) := Lib.hid (HXE.out (by omega))
            obtain ⟨mm, hmm⟩ : ∃ mm : Nat, gotV L (5 + 10 * j) 1 = (mm : Int) := ⟨(gotV L (5 + 10 * j) 1).toNat, by have := (gotV_bound HL.out (5 + 10 * j) 1).1; omega⟩
            have mm0 : mm < 256 := by have := (gotV_bound HL.out (5 + 10 * j) 1).2; rw [hmm] at this; omega
            have CB : Hid (cntB L = mm) := Lib.hid (by have h := hmm; rw [gotV_one] at h; unfold cntB; rw [CA.out, h]; omega)
            have C := SB.out.num HL.out HLL.out 1 (by decide)
            rw [show ((1 : Nat) : Int) = 1 from rfl, hmm] at C
            clear SB HXE hmm hj hxl
            go_wp2_with fail
            refine C.mono ?_
            clear C
            rintro e w4 ⟨rfl, q1⟩
            have S1 : Hid (∃ A2 n2 c2 ys, TS W w4 gr gp W.heap.size L (6 + 10 * j + 3 * 0) ptr (.slice A1 n1 c1) (.slice A2 n2 c2) xs ys ∧ ys.length ≤ 0 ∧ (6 + 10 * j + 3 * 0 ≤ L.length → ys = (snks L (6 + 10 * j) 0).map cK)) := Lib.hid ⟨_, _, _, _, by rw [show 5 + 10 * j + 1 = 6 + 10 * j + 3 * 0 from by omega] at q1; exact q1, Nat.le_refl _, fun _ => rfl⟩
            clear q1 hb1
            go_wp2
            go_loopw [9] (fun i wq => ∃ q : Nat, q ≤ mm ∧ i = .int .u32 q ∧ Hid (∃ A2 n2 c2 ys, TS W wq gr gp W.heap.size L (6 + 10 * j + 3 * q) ptr (.slice A1 n1 c1) (.slice A2 n2 c2) xs ys ∧ ys.length ≤ q ∧ (6 + 10 * j + 3 * q ≤ L.length → ys = (snks L (6 + 10 * j) q).map cK))) (fun i _ => mm - (intOf i).toNat)
            case atStart => exact ⟨0, by omega, rfl, S1⟩
            case round =>
              obtain ⟨q, hq, rfl, hS⟩ := hrel
              clear S1
              obtain ⟨A2, n2, c2, ys, S2, hyl, hye⟩ := hS.out
              have SB := Lib.hid S2
              have HYE := Lib.hid hye
              have hb := S2.badc
              clear S2 hye hS
              by_cases hbad2 : L.length < 6 + 10 * j + 3 * q
              · have hb1 : wr.cell? ⟨gr, 2, none⟩ = some (.bool true) := by rw [hb, decide_eq_true hbad2]
                have S9 := SB
                clear hb SB HYE
                by_cases hlt2 : q < mm
                · have NP : Hid (¬ isP L) := Lib.hid (fun h => by have := h.1; rw [CA.out, CB.out] at this; omega)
                  have t0 := (blk_cell S9.out.h2 0).trans rfl
                  have t1 := (blk_cell S9.out.h2 1).trans rfl
                  have t2 := (blk_cell S9.out.h2 2).trans rfl
                  have s0 := blk_frozen S9.out.h2 0
                  have s1 := blk_frozen S9.out.h2 1
                  have s2 := blk_frozen S9.out.h2 2
                  have hu46 := Try.underlying46
                  go_wp2
                  exact fin_no NP.out S9.out.hB S9.out.h2 _ rfl rfl
                · have NP : Hid (¬ isP L) := Lib.hid (fun h => by have := h.1; rw [CA.out, CB.out] at this; omega)
                  have t0 := (blk_cell S9.out.h2 0).trans rfl
                  have t1 := (blk_cell S9.out.h2 1).trans rfl
                  have t2 := (blk_cell S9.out.h2 2).trans rfl
                  have s0 := blk_frozen S9.out.h2 0
                  have s1 := blk_frozen S9.out.h2 1
                  have s2 := blk_frozen S9.out.h2 2
                  have hu46 := Try.underlying46
                  go_wp2
                  exact fin_no NP.out S9.out.hB S9.out.h2 _ rfl rfl
              · have hb1 : wr.cell? ⟨gr, 2, none⟩ = some (.bool false) := by rw [hb, decide_eq_false hbad2]
                clear hb
                by_cases hlt2 : q < mm
                · obtain ⟨x0, hx0⟩ : ∃ x, gotV L (6 + 10 * j + 3 * q) 1 = x := ⟨_, rfl⟩
                  obtain ⟨x1, hx1⟩ : ∃ x, gotV L (6 + 10 * j + 3 * q + 1) 1 = x := ⟨_, rfl⟩
                  obtain ⟨x2, hx2⟩ : ∃ x, gotV L (6 + 10 * j + 3 * q + 1 + 1) 1 = x := ⟨_, rfl⟩
                  have y0 : 0 ≤ x0 ∧ x0 < 256 := by rw [← hx0]; exact gotV_bound HL.out _ 1
                  have y1 : 0 ≤ x1 ∧ x1 < 256 := by rw [← hx1]; exact gotV_bound HL.out _ 1
                  have y2 : 0 ≤ x2 ∧ x2 < 256 := by rw [← hx2]; exact gotV_bound HL.out _ 1
                  have u0 : IntKind.i64.wrap x0 = x0 := IntWalk.i64_in _ (by omega)
                  have u1 : IntKind.i64.wrap x1 = x1 := IntWalk.i64_in _ (by omega)
                  have u2 : IntKind.u8.wrap x2 = x2 := by rw [IntKind.wrap_u8]; omega
                  have u4 : x2 % 256 = x2 := by omega
                  have HX3 := Lib.hid hx0
                  have HX6 := Lib.hid hx1
                  have HX9 := Lib.hid hx2
                  have HXL : Hid ((ys.length + 1) * 24 ≤ 140737488355328) := Lib.hid (by omega)
                  have HNEW : Hid (6 + 10 * j + 3 * (q + 1) ≤ L.length → ys ++ [⟨x0, x1, x2⟩] = (snks L (6 + 10 * j) (q + 1)).map cK) := Lib.hid (fun hle => by
                    rw [HYE.out (by omega), snks_succ, List.map_append, List.map_singleton, ← rsnk_eq]
                    unfold rsnk
                    rw [hx0, hx1, show 6 + 10 * j + 3 * q + 2 = 6 + 10 * j + 3 * q + 1 + 1 by omega, hx2])
                  have HXX := Lib.hid hyl
                  clear hx0 hx1 hx2 HYE hyl
                  go_wp2
                  have SD := Lib.hid (SB.out.below (below_drew (Below.refl _ _)))
                  have d1 := (blk_cell SD.out.hp 2).trans rfl
                  clear SB hb1
                  refine start_ (n := 16) (S := fun w' => w'.cell? ⟨gp, 2, none⟩ = some (.slice A2 n2 c2)) (ds := [15]) #[false, false, false, false, false, false, false, false, false, false, false, false, false, false, false, false] (by kernel_rfl) rfl rfl (d1) (fun hHeld => ?_)
                  refine pure_ (i := 0) (N := some 68) (v := ?_) (a' := ?_) #[true, false, false, false, false, false, false, false, false, false, false, false, false, false, false, false] rfl rfl (by kernel_rfl) (fun _ _ _ h => h) (Or.inl ⟨by rfl, ?_⟩) ?_ ?_
                  rotate_left
                  · intro w'
                    go_simp
                    with_reducible rfl
                  rotate_left
                  · simp only [Act.put, List.setIfInBounds_toArray, List.set_cons_zero, List.set_cons_succ, i64_w, i32_w]
                    rfl
                  refine pure_ (i := 2) (N := some 70) (v := ?_) (a' := ?_) #[true, false, true, false, false, false, false, false, false, false, false, false, false, false, false, false] rfl rfl (by kernel_rfl) (fun _ _ _ h => h) (Or.inl ⟨by rfl, ?_⟩) ?_ ?_
                  rotate_left
                  · intro w'
                    go_simp
                    with_reducible rfl
                  rotate_left
                  · simp only [Act.put, List.setIfInBounds_toArray, List.set_cons_zero, List.set_cons_succ, i64_w, i32_w]
                    rfl
                  refine pure_ (i := 5) (N := some 73) (v := ?_) (a' := ?_) #[true, false, true, false, false, true, false, false, false, false, false, false, false, false, false, false] rfl rfl (by kernel_rfl) (fun _ _ _ h => h) (Or.inl ⟨by rfl, ?_⟩) ?_ ?_
                  rotate_left
                  · intro w'
                    go_simp
                    with_reducible rfl
                  rotate_left
                  · simp only [Act.put, List.setIfInBounds_toArray, List.set_cons_zero, List.set_cons_succ, i64_w, i32_w]
                    rfl
                  refine pure_ (i := 8) (N := some 76) (v := ?_) (a' := ?_) #[true, false, true, false, false, true, false, false, true, false, false, false, false, false, false, false] rfl rfl (by kernel_rfl) (fun _ _ _ h => h) (Or.inl ⟨by rfl, ?_⟩) ?_ ?_
                  rotate_left
                  · intro w'
                    go_simp
                    with_reducible rfl
                  rotate_left
                  · simp only [Act.put, List.setIfInBounds_toArray, List.set_cons_zero, List.set_cons_succ, i64_w, i32_w]
                    rfl
                  refine take_ (i := 1) (N := some 69) (v := ?_) (a' := ?_) #[true, true, true, false, false, true, false, false, true, false, false, false, false, false, false, false] rfl rfl (by kernel_rfl) (fun _ _ _ h => h) (Or.inl ⟨by rfl, ?_⟩) hHeld ?_ ?_
                  rotate_left
                  · intro w' s0
                    go_simp
                    with_reducible rfl
                  rotate_left
                  · simp only [Act.put, List.setIfInBounds_toArray, List.set_cons_zero, List.set_cons_succ, i64_w, i32_w]
                    rfl
                  refine one_ (i := 3) (N := some 71) #[true, true, true, true, false, true, false, false, true, false, false, false, false, false, false, false] rfl rfl (by kernel_rfl) (by decide) (fun K hK => ?_)
                  refine goes_ Try.func28 (by kernel_rfl) rfl #[.pointer (some ⟨gr, 0, none⟩), .int .i64 1] (by rfl) rfl rfl (by simp only [List.map_toArray, List.map_cons, List.map_nil]; rfl) ?_
                  have C := SD.out.num HL.out HLL.out 1 (by decide)
                  rw [show ((1 : Nat) : Int) = 1 from rfl, HX3.out] at C
                  refine C.mono ?_
                  clear C
                  rintro e w2 ⟨rfl, q1⟩
                  have S2 := Lib.hid q1
                  have d_w2 : w2.cell? ⟨gp, 2, none⟩ = some (.slice A2 n2 c2) := (blk_cell q1.hp 2).trans rfl
                  clear q1 SD
                  refine ⟨_, rfl, ?_⟩
                  refine hK.out _ _ (d_w2) (fun hHeld => ?_)
                  clear hK K
                  refine norm_ (a' := ?_) ?_ ?_
                  rotate_left
                  · show Act.put _ (some 71) _ = _
                    simp only [Act.put, List.setIfInBounds_toArray, List.set_cons_zero, List.set_cons_succ, i64_w, i32_w]
                    rfl
                  refine pure_ (i := 4) (N := some 72) (v := ?_) (a' := ?_) #[true, true, true, true, true, true, false, false, true, false, false, false, false, false, false, false] rfl rfl (by kernel_rfl) (fun _ _ _ h => h) (Or.inl ⟨by rfl, ?_⟩) ?_ ?_
                  rotate_left
                  · intro w'
                    go_simp
                    with_reducible rfl
                  rotate_left
                  · simp only [Act.put, List.setIfInBounds_toArray, List.set_cons_zero, List.set_cons_succ, i64_w, i32_w]
                    rfl
                  refine one_ (i := 6) (N := some 74) #[true, true, true, true, true, true, true, false, true, false, false, false, false, false, false, false] rfl rfl (by kernel_rfl) (by decide) (fun K hK => ?_)
                  refine goes_ Try.func28 (by kernel_rfl) rfl #[.pointer (some ⟨gr, 0, none⟩), .int .i64 1] (by rfl) rfl rfl (by simp only [List.map_toArray, List.map_cons, List.map_nil]; rfl) ?_
                  have C := S2.out.num HL.out HLL.out 1 (by decide)
                  rw [show ((1 : Nat) : Int) = 1 from rfl, HX6.out] at C
                  refine C.mono ?_
                  clear C
                  rintro e w3 ⟨rfl, q1⟩
                  have S3 := Lib.hid q1
                  have d_w3 : w3.cell? ⟨gp, 2, none⟩ = some (.slice A2 n2 c2) := (blk_cell q1.hp 2).trans rfl
                  clear q1 S2
                  refine ⟨_, rfl, ?_⟩
                  refine hK.out _ _ (d_w3) (fun hHeld => ?_)
                  clear hK K
                  refine norm_ (a' := ?_) ?_ ?_
                  rotate_left
                  · show Act.put _ (some 74) _ = _
                    simp only [Act.put, List.setIfInBounds_toArray, List.set_cons_zero, List.set_cons_succ, i64_w, i32_w]
                    rfl
                  refine pure_ (i := 7) (N := some 75) (v := ?_) (a' := ?_) #[true, true, true, true, true, true, true, true, true, false, false, false, false, false, false, false] rfl rfl (by kernel_rfl) (fun _ _ _ h => h) (Or.inl ⟨by rfl, ?_⟩) ?_ ?_
                  rotate_left
                  · intro w'
                    go_simp
                    with_reducible rfl
                  rotate_left
                  · simp only [Act.put, List.setIfInBounds_toArray, List.set_cons_zero, List.set_cons_succ, i64_w, i32_w]
                    rfl
                  refine one_ (i := 9) (N := some 77) #[true, true, true, true, true, true, true, true, true, true, false, false, false, false, false, false] rfl rfl (by kernel_rfl) (by decide) (fun K hK => ?_)
                  refine goes_ Try.func28 (by kernel_rfl) rfl #[.pointer (some ⟨gr, 0, none⟩), .int .i64 1] (by rfl) rfl rfl (by simp only [List.map_toArray, List.map_cons, List.map_nil]; rfl) ?_
                  have C := S3.out.num HL.out HLL.out 1 (by decide)
                  rw [show ((1 : Nat) : Int) = 1 from rfl, HX9.out] at C
                  refine C.mono ?_
                  clear C
                  rintro e w4 ⟨rfl, q1⟩
                  have S4 := Lib.hid q1
                  have d_w4 : w4.cell? ⟨gp, 2, none⟩ = some (.slice A2 n2 c2) := (blk_cell q1.hp 2).trans rfl
                  clear q1 S3
                  refine ⟨_, rfl, ?_⟩
                  refine hK.out _ _ (d_w4) (fun hHeld => ?_)
                  clear hK K
                  refine norm_ (a' := ?_) ?_ ?_
                  rotate_left
                  · show Act.put _ (some 77) _ = _
                    simp only [Act.put, List.setIfInBounds_toArray, List.set_cons_zero, List.set_cons_succ, i64_w, i32_w]
                    rfl
                  refine pure_ (i := 10) (N := some 78) (v := ?_) (a' := ?_) #[true, true, true, true, true, true, true, true, true, true, true, false, false, false, false, false] rfl rfl (by kernel_rfl) (fun _ _ _ h => h) (Or.inl ⟨by rfl, ?_⟩) ?_ ?_
                  rotate_left
                  · intro w'
                    go_simp
                    with_reducible rfl
                  rotate_left
                  · simp only [Act.put, List.setIfInBounds_toArray, List.set_cons_zero, List.set_cons_succ, i64_w, i32_w]
                    rfl
                  refine pure_ (i := 11) (N := some 79) (v := ?_) (a' := ?_) #[true, true, true, true, true, true, true, true, true, true, true, true, false, false, false, false] rfl rfl (by kernel_rfl) (fun _ _ _ h => h) (Or.inl ⟨by rfl, ?_⟩) ?_ ?_
                  rotate_left
                  · intro w'
                    go_simp
                    with_reducible rfl
                  rotate_left
                  · simp only [Act.put, List.setIfInBounds_toArray, List.set_cons_zero, List.set_cons_succ, i64_w, i32_w]
                    rfl
                  refine one_ (i := 12) (N := some 80) #[true, true, true, true, true, true, true, true, true, true, true, true, true, false, false, false] rfl rfl (by kernel_rfl) (by decide) (fun K hK => ?_)
                  refine value_ (w1 := ?_) (v := ?_) (by rfl) rfl ?_ ?_
                  rotate_left 2
                  · go_simp
                    constructor
                    · rfl
                    · rfl
                  have d6 : (w4.alloc (.cells #[.int .i64 x0, .int .i64 x1, .int .u8 x2] 71)).cell? ⟨gp, 2, none⟩ = some (.slice A2 n2 c2) := (blk_cell (blk_alloc S4.out.hp _) 2).trans rfl
                  refine hK.out _ _ (d6) (fun hHeld => ?_)
                  clear hK K
                  refine norm_ (a' := ?_) ?_ ?_
                  rotate_left
                  · show Act.put _ (some 80) _ = _
                    simp only [Act.put, List.setIfInBounds_toArray, List.set_cons_zero, List.set_cons_succ, i64_w, i32_w]
                    rfl
                  refine one_ (i := 13) (N := some 81) #[true, true, true, true, true, true, true, true, true, true, true, true, true, true, false, false] rfl rfl (by kernel_rfl) (by decide) (fun K hK => ?_)
                  refine Kd.R_append_step k71 (w0 := W) W.heap.size (by rfl) (.tmp 69) (.tmp 80) 44 71 (.agg #[(.int .i64 0), (.int .i64 0), (.int .u8 0)]) 24 rfl Try.underlying44 info71 rfl (by decide) (by decide) (.slice A2 n2 c2) ys ⟨x0, x1, x2⟩ [.int .i64 x0, .int .i64 x1, .int .u8 x2] (fun k => k ≠ gr ∧ k ≠ gp ∧ k ≠ W.heap.size) (fun _ => False) rfl rfl ?aP (fun _ hk => hk.elim) ?aF ?aO ?aB ?aS ?aL ?_
                  case aP => exact k71_mkM _ _ _ ⟨x0, x1, x2⟩
                  case aF => exact S4.out.fresh
                  case aO => exact S4.out.hr2
                  case aB => exact S4.out.hB
                  case aS => exact S4.out.hB.size
                  case aL => have := HXL.out; omega
                  intro v6 w6 q1 q2 q3 q4
                  obtain ⟨A6, n6, c6, rfl⟩ : ∃ A n c, v6 = .slice A n c := by obtain ⟨A, c, e, _⟩ := Kd.R_reads q1; exact ⟨_, _, _, e⟩
                  have S6 := Lib.hid (S4.out.app2 q1 q2 q3)
                  have e1 : w6.cell? ⟨gp, 2, none⟩ = some (.slice A2 n2 c2) := (blk_cell (blk_grown S4.out.hp q3 (S4.out.row2 gp (by omega))) 2).trans rfl
                  have e2 : w6.frozen? ⟨gp, 2, none⟩ = false := blk_frozen (blk_grown S4.out.hp q3 (S4.out.row2 gp (by omega))) 2
                  clear q1 q2 q3 q4 S4 d6
                  refine hK.out _ _ (e1) (fun hHeld => ?_)
                  clear hK K
                  refine norm_ (a' := ?_) ?_ ?_
                  rotate_left
                  · show Act.put _ (some 81) _ = _
                    simp only [Act.put, List.setIfInBounds_toArray, List.set_cons_zero, List.set_cons_succ, i64_w, i32_w]
                    rfl
                  refine pure_ (i := 14) (N := some 82) (v := ?_) (a' := ?_) #[true, true, true, true, true, true, true, true, true, true, true, true, true, true, true, false] rfl rfl (by kernel_rfl) (fun _ _ _ h => h) (Or.inl ⟨by rfl, ?_⟩) ?_ ?_
                  rotate_left
                  · intro w'
                    go_simp
                    with_reducible rfl
                  rotate_left
                  · simp only [Act.put, List.setIfInBounds_toArray, List.set_cons_zero, List.set_cons_succ, i64_w, i32_w]
                    rfl
                  refine last_ (i := 15) (N := none) #[true, true, true, true, true, true, true, true, true, true, true, true, true, true, true, true] rfl rfl (by kernel_rfl) (by decide) (fun K hK => ?_)
                  refine skip_ (w1 := ?_) (by rfl) rfl ?_ ?_
                  rotate_left
                  · go_simp
                    rfl
                  refine hK.out _ _ ?_
                  clear hK K
                  refine done_ (by kernel_rfl) ?_
                  obtain ⟨w7, hw7⟩ : ∃ w7, w7 = w6.setCell ⟨gp, 2, none⟩ (.slice A6 n6 c6) := ⟨_, rfl⟩
                  rw [← hw7] at S6 ⊢
                  have S7 : Hid (∃ A2 n2 c2 ys, TS W w7 gr gp W.heap.size L (6 + 10 * j + 3 * (q + 1)) ptr (.slice A1 n1 c1) (.slice A2 n2 c2) xs ys ∧ ys.length ≤ q + 1 ∧ (6 + 10 * j + 3 * (q + 1) ≤ L.length → ys = (snks L (6 + 10 * j) (q + 1)).map cK)) := Lib.hid ⟨A6, n6, c6, ys ++ [⟨x0, x1, x2⟩], by have := S6.out; rw [show 6 + 10 * j + 3 * q + 1 + 1 + 1 = 6 + 10 * j + 3 * (q + 1) from by omega] at this; exact this, by rw [List.length_append, List.length_singleton]; have := HXX.out; omega, HNEW.out⟩
                  clear S6 hw7 e1 e2 hHeld HNEW HXX HXL HX3 HX6 HX9
                  go_wp2
                  go_roundw
                  case rel => exact ⟨q + 1, by omega, by go_num, S7⟩
                  case measure => simp [intOf]; omega
                · have hqe : q = mm := by omega
                  subst hqe
                  have hat := SB.out.atc (by omega)
                  have hu46 := Try.underlying46
                  have HYS := Lib.hid (HYE.out (by omega))
                  clear HYE hyl hlt2
                  by_cases hk : L.length = 6 + 10 * j + 3 * q
                  · have MDV : Hid (B L 3 = md) := Lib.hid (by rw [← gotV_one]; exact MD.out)
                    by_cases hm1 : 1 < md
                    · have NP : Hid (¬ isP L) := Lib.hid (fun h => by have := h.2.2.1; rw [MDV.out] at this; omega)
                      have t0 := (blk_cell SB.out.h2 0).trans rfl
                      have t1 := (blk_cell SB.out.h2 1).trans rfl
                      have t2 := (blk_cell SB.out.h2 2).trans rfl
                      have s0 := blk_frozen SB.out.h2 0
                      have s1 := blk_frozen SB.out.h2 1
                      have s2 := blk_frozen SB.out.h2 2
                      go_wp2
                      exact fin_no NP.out SB.out.hB SB.out.h2 _ rfl rfl
                    · obtain ⟨km, hkm⟩ := may_at ptr (srcs L j) (snks L (6 + 10 * j) q) (by rw [srcs_length]; omega) (by rw [snks_length]; omega) (fun s hs => by
                        obtain ⟨i, _, rfl⟩ := List.mem_map.1 hs
                        have h1 := le_bound (HL.out.drop (5 + 10 * i + 1)) 4
                        have h2 := le_bound (HL.out.drop (5 + 10 * i + 5)) 4
                        have h3 := HBV.out (5 + 10 * i + 9)
                        exact ⟨h1.1, h1.2, h2.1, h2.2, h3.1, h3.2⟩)
                      rw [← HXS.out, ← HYS.out] at hkm
                      obtain ⟨A1', c1', e1, le1, C1⟩ := Kd.R_reads SB.out.hr1
                      injection e1 with e1 e2 e3
                      subst e1; subst e3
                      obtain ⟨A2', c2', e1, le2, C2⟩ := Kd.R_reads SB.out.hr2
                      injection e1 with e1 e4 e3
                      subst e1; subst e3
                      have MAY := tinctureref7_MayPolicy.calls km ptr A1 c1 xs A2 c2 ys (goodB (srcs L j) (snks L (6 + 10 * j) q)) wr C1 le1 C2 le2 (hkm km (Nat.le_refl _))
                      rw [← e2, ← e4] at MAY
                      have p0 := (blk_cell SB.out.hp 0).trans rfl
                      have p1 := (blk_cell SB.out.hp 1).trans rfl
                      have p2 := (blk_cell SB.out.hp 2).trans rfl
                      obtain ⟨gd, hgd⟩ : ∃ gd, gd = goodB (srcs L j) (snks L (6 + 10 * j) q) := ⟨_, rfl⟩
                      rw [← hgd] at MAY
                      have GD := Lib.hid hgd
                      clear le1 C1 le2 C2 hkm hgd e2 e4
                      go_wp2_with fail
                      refine MAY.mono ?_
                      clear MAY
                      rintro e w5 ⟨rfl, hb5⟩
                      have S9 := Lib.hid (SB.out.below hb5)
                      clear SB hb5 p0 p1 p2 hat hb1
                      have t0 := (blk_cell S9.out.h2 0).trans rfl
                      have t1 := (blk_cell S9.out.h2 1).trans rfl
                      have t2 := (blk_cell S9.out.h2 2).trans rfl
                      have s0 := blk_frozen S9.out.h2 0
                      have s1 := blk_frozen S9.out.h2 1
                      have s2 := blk_frozen S9.out.h2 2
                      cases gd with
                      | false =>
                        have NP : Hid (¬ isP L) := Lib.hid (fun h => by have := h.2.2.2; rw [CA.out, CB.out, ← GD.out] at this; cases this)
                        go_wp2
                        exact fin_no NP.out S9.out.hB S9.out.h2 _ rfl rfl
                      | true =>
                        have YP : Hid (isP L) := Lib.hid (by
                          unfold isP
                          rw [CA.out, CB.out, MDV.out]
                          exact ⟨hk, H3.out, by omega, GD.out.symm⟩)
                        have p0 := (blk_cell S9.out.hp 0).trans rfl
                        have p1 := (blk_cell S9.out.hp 1).trans rfl
                        have p2 := (blk_cell S9.out.hp 2).trans rfl
                        go_wp2
                        have hw := blk_set (blk_set (blk_set S9.out.h2 0 (.bool ptr)) 1 (.slice A1 n1 c1)) 2 (.slice A2 n2 c2)
                        refine bodyPost_ret (results_ct (P := Try.prog) (ty := 46) (p := 2) (u := 3) rfl _ _ W.heap.size 46 #[.bool ptr, .slice A1 n1 c1, .slice A2 n2 c2] (0, 0) _ rfl (by simpa using hw) Try.underlying46 rfl (by kernel_rfl)) rfl ?_
                        have e : refP L = (ptr, xs, ys, true) := by rw [refP, if_pos YP.out, CA.out, CB.out, MDV.out, ← HPT.out, ← HXS.out, ← HYS.out]
                        refine ⟨.slice A1 n1 c1, .slice A2 n2 c2, by rw [e]; rfl, ?_, ?_, ?_⟩
                        · rw [e]; exact Kd.R_mono (Kd.R_far (Kd.R_far (Kd.R_far S9.out.hr1 (fun _ hk => hk.2.2) _) (fun _ hk => hk.2.2) _) (fun _ hk => hk.2.2) _) (fun _ _ => trivial)
                        · rw [e]; exact Kd.R_mono (Kd.R_far (Kd.R_far (Kd.R_far S9.out.hr2 (fun _ hk => hk.2.2) _) (fun _ hk => hk.2.2) _) (fun _ hk => hk.2.2) _) (fun _ _ => trivial)
                        · exact ((S9.out.hB.setCell (Nat.le_refl _) _).setCell (Nat.le_refl _) _).setCell (Nat.le_refl _) _
                  · have NP : Hid (¬ isP L) := Lib.hid (fun h => by have := h.1; rw [CA.out, CB.out] at this; omega)
                    have hk2 : ¬ ((6 + 10 * j + 3 * q : Nat) : Int) = (L.length : Int) := by omega
                    have t0 := (blk_cell SB.out.h2 0).trans rfl
                    have t1 := (blk_cell SB.out.h2 1).trans rfl
                    have t2 := (blk_cell SB.out.h2 2).trans rfl
                    have s0 := blk_frozen SB.out.h2 0
                    have s1 := blk_frozen SB.out.h2 1
                    have s2 := blk_frozen SB.out.h2 2
                    go_wp2
                    exact fin_no NP.out SB.out.hB SB.out.h2 _ rfl rfl
    · have NP : Hid (¬ isP L) := Lib.hid (fun h => h3 (by rw [HHD.out]; exact (head_iff (HBV.out 0) (HBV.out 1) (HBV.out 2)).2 h.2.1))
      have t0 := (blk_cell k2 0).trans rfl
      have t1 := (blk_cell k2 1).trans rfl
      have t2 := (blk_cell k2 2).trans rfl
      have s0 := blk_frozen k2 0
      have s1 := blk_frozen k2 1
      have s2 := blk_frozen k2 2
      have hu46 := Try.underlying46
      have h3' : (hd.toList == [84, 80, 49]) = false := beq_eq_false_iff_ne.mpr h3
      clear k2 HHD
      go_wp2
      exact fin_no NP.out K2.out.2 K2.out.1 _ rfl rfl
end Go.Proofs.Ytlhoaejkjhdlgaa.RefGet
