/- What the reference's GetImage reads of any bytes. -/
import Derived.Test.YtcjaepmecihmlaaRefIS
import Derived.Deep.DeepCutAuto
import Derived.Lib.Bytes
namespace Go.Proofs.Ytcjaepmecihmlaa.RefImg
open Go Go.RowKit Go.Proofs.Ytcjaepmecihmlaa.Img Go.Proofs.YtcjaepmecihmlaaW.PrintWords Go.Proofs.YtcjaepmecihmlaaW.PrintLast Go.Proofs.YtcjaepmecihmlaaW.PrintMore Go.Proofs.Ytcjaepmecihmlaa.ImgPure Go.Proofs.Ytcjaepmecihmlaa.GetPure Go.Proofs.Ytcjaepmecihmlaa.GetAny Go.Proofs.Ytcjaepmecihmlaa.GoodEq Go.Proofs.Ytcjaepmecihmlaa.RPutEq Go.Proofs.Ytcjaepmecihmlaa.RefRd
set_option linter.unusedVariables false
set_option linter.unusedSimpArgs false
abbrev qmg_0 : Array Bool := #[false, false, false, false, false, false, false, false, false]
abbrev qmg_1 : Array Bool := #[true, false, false, false, false, false, false, false, false]
abbrev qmg_2 : Array Bool := #[true, false, true, false, false, false, false, false, false]
abbrev qmg_3 : Array Bool := #[true, false, true, true, false, false, false, false, false]
abbrev qmg_4 : Array Bool := #[true, true, true, true, false, false, false, false, false]
abbrev qmg_5 : Array Bool := #[true, true, true, true, true, false, false, false, false]
abbrev qmg_6 : Array Bool := #[true, true, true, true, true, true, false, false, false]
abbrev qmg_7 : Array Bool := #[true, true, true, true, true, true, true, false, false]
abbrev qmg_8 : Array Bool := #[true, true, true, true, true, true, true, true, false]
abbrev qmg_9 : Array Bool := #[true, true, true, true, true, true, true, true, true]
theorem zdh {w : World} {base : Nat} {ok : Nat → Prop} {v : Value} {xs : List Int} (h : Kd.R (Kd.int .u8) 5 w base ok v xs) : (convert 28 9 v).run Try.prog w = .ok (.string (strOfNums xs)) w := by
  obtain ⟨A, c, hv, hl, hc⟩ := Kd.zdn h; subst hv
  exact Kd.zek Try.underlying28 Try.underlying5 Try.underlying9 hc
theorem bytes_inj : ∀ {a b : List Int}, Bytes a → Bytes b → Go.Lib.bytesOf a = Go.Lib.bytesOf b → a = b := by
  intro a
  induction a with
  | nil => intro b _ _ h; cases b with
    | nil => rfl
    | cons y b => simp [Go.Lib.bytesOf] at h
  | cons x a ih =>
    intro b ha hb h
    cases b with
    | nil => simp [Go.Lib.bytesOf] at h
    | cons y b =>
      simp only [Go.Lib.bytesOf, List.map_cons, List.cons.injEq] at h; have h1 := ha x (by simp); have h2 := hb y (by simp); have h3 := congrArg UInt8.toNat h.1; simp only [UInt8.toNat_ofNat'] at h3
      have h4 : x = y := by omega
      rw [h4, ih (fun z hz => ha z (List.mem_cons_of_mem _ hz)) (fun z hz => hb z (List.mem_cons_of_mem _ hz)) h.2]
theorem str_eq {a b : List Int} (ha : Bytes a) (hb : Bytes b) : ((strOfNums a).toList == (strOfNums b).toList) = true ↔ a = b := by
  rw [Go.Lib.strOfNums_toList, Go.Lib.strOfNums_toList, beq_iff_eq]
  exact ⟨bytes_inj ha hb, fun h => by rw [h]⟩
/-! samePolicy. -/
theorem id_str : (strOfNums idP).toList = [127, 69, 76, 70, 1, 1, 1, 0, 0, 0, 0, 0, 0, 0, 0, 0] := by rw [ByteArray.toList_eq]; rfl
theorem id_is {l : List Int} (h : Bytes l) : (strOfNums l).toList = [127, 69, 76, 70, 1, 1, 1, 0, 0, 0, 0, 0, 0, 0, 0, 0] ↔ l = idP := by
  have hi : Bytes idP := by intro x hx; simp [idP] at hx; omega
  have := str_eq h hi
  rw [← id_str, ← this, beq_iff_eq]
/-- Nothing is read: the answer. -/
theorem zdt {W w : World} {L : List Int} {code : Int} (h : getI L = (0, [], code)) (hb : Below W.heap.size W w) (h2 : w.heap[W.heap.size]? = some (.cells #[.int .u32 0, .slice none 0 0] 40 (0, 0))) (tm : Array Value) (e2 : tm.getD 2 undef = .pointer (some ⟨W.heap.size, 0, none⟩)) (e3 : tm.getD 3 undef = .int .i64 code) :
    bodyPost Try.prog Try.f14 (zhk W L) Exit.ret ⟨tm, []⟩ ((w.setCell ⟨W.heap.size, 0, none⟩ (.int .u32 0)).setCell ⟨W.heap.size, 1, none⟩ (.slice none 0 0)) := by
  have hw := zc4 (zc4 h2 0 (.int .u32 0)) 1 (.slice none 0 0)
  refine bodyPost_ret (zca (P := Try.prog) (ty := 40) (p := 2) (u := 3) rfl tm _ W.heap.size 40 #[.int .u32 0, .slice none 0 0] (0, 0) _ e2 (by simpa using hw) Try.underlying40 rfl (by kernel_rfl)) rfl ?_
  rw [e3]
  have e : refI L = (0, [], code) := by rw [refI, h]; rfl
  refine ⟨.slice none 0 0, by rw [e], by rw [e]; exact Kd.R_nil _ _ _ _ _, ?_⟩
  exact (hb.setCell (Nat.le_refl _) _).setCell (Nat.le_refl _) _
set_option maxHeartbeats 8000000 in
set_option maxRecDepth 100000 in
theorem get_img (W : World) (L : List Int) (A : Option Addr) (c : Nat) (hL : Bytes L) (hl : L.length ≤ 3000) (hr : Kd.C (Kd.int .u8) W A L.length L) (hc : L.length ≤ c) :
    Calls Try.prog 14 #[.slice A L.length c] W (zhk W L) := by
  have HR := Lib.hid hr; have HCc := Lib.hid hc; have HL := Lib.hid hL; have HLL : Hid (L.length ≤ 1000000) := Lib.hid (by omega)
  obtain ⟨wb, hwb⟩ : ∃ wb, wb = (W.alloc (Obj.cells #[.int .u32 0, .slice none 0 0] 40)).alloc (Obj.cells #[.slice A L.length c, .int .i64 0, .bool false] 62) := ⟨_, rfl⟩
  obtain ⟨gr, hgr⟩ : ∃ gr, gr = W.heap.size + 1 := ⟨_, rfl⟩
  have SQ : Hid (RS W wb gr L 0 [(W.heap.size, .cells #[.int .u32 0, .slice none 0 0] 40 (0, 0))] (.slice none 0 0) []) := by
    have hB : Below W.heap.size W wb := by rw [hwb]; exact zab (zab (Below.refl _ _) _) _
    have h2 : wb.heap[W.heap.size]? = some (.cells #[.int .u32 0, .slice none 0 0] 40 (0, 0)) := by rw [hwb]; exact zad (zc5 W _) _
    have hg : wb.heap[gr]? = some (.cells #[.slice A L.length c, .int .i64 0, .bool false] 62 (0, 0)) := by
      rw [hwb, hgr]
      have := zc5 (W.alloc (Obj.cells #[.int .u32 0, .slice none 0 0] 40)) (Obj.cells #[.slice A L.length c, .int .i64 0, .bool false] 62)
      simpa using this
    refine Lib.hid ⟨⟨0, false, ⟨A, c, hg, by omega, hr, hc⟩, .inl ⟨rfl, rfl, Nat.zero_le _⟩⟩, hB, by omega, fun p hp => ?_, Kd.R_nil _ _ _ _ _⟩
    rw [List.mem_singleton.1 hp]
    exact ⟨Nat.le_refl _, by show W.heap.size ≠ gr; omega, h2⟩
  clear hr hc hL
  go_enter Try.func14, Try.ntmps14
  go_wp2_with fail
  rw [← hwb, ← hgr]; clear hwb; have C := SQ.out.bytes HLL.out 16 (by decide) (by decide); rw [show ((16 : Nat) : Int) = 16 from rfl] at C
  refine C.mono ?_
  clear C SQ hgr; rintro e w1 ⟨v, rfl, q1, q2⟩; have cv := zdh q2
  obtain ⟨Av, nv, cv', rfl⟩ : ∃ A n c, v = .slice A n c := by obtain ⟨A, c, e, _⟩ := Kd.zdn q2; exact ⟨_, _, _, e⟩
  obtain ⟨hd, hhd⟩ : ∃ hd : ByteArray, hd = strOfNums (if L.length < 0 + 16 then [] else (L.drop 0).take 16) := ⟨_, rfl⟩
  rw [← hhd] at cv
  have HID : hd.toList = [127, 69, 76, 70, 1, 1, 1, 0, 0, 0, 0, 0, 0, 0, 0, 0] ↔ (16 ≤ L.length ∧ L.take 16 = idP) := by
    rw [hhd]
    by_cases h : L.length < 0 + 16
    · rw [if_pos h]
      exact ⟨fun h2 => absurd ((id_is (fun x hx => by cases hx)).1 h2) (by decide), fun h2 => by omega⟩
    · rw [if_neg h, List.drop_zero, id_is (fun x hx => HL.out x (List.mem_of_mem_take hx))]
      exact ⟨fun h2 => ⟨by omega, h2⟩, fun h2 => h2.2⟩
  have HIH := Lib.hid HID; have SQ : Hid (RS W w1 gr L 16 [(W.heap.size, .cells #[.int .u32 0, .slice none 0 0] 40 (0, 0))] (.slice none 0 0) []) := Lib.hid (by rw [Nat.zero_add] at q1; exact q1); clear q1 q2 hhd HID; have t0 := (zai (SQ.out.hF _ List.mem_cons_self).2.2 0).trans rfl; have t1 := (zai (SQ.out.hF _ List.mem_cons_self).2.2 1).trans rfl; have s0 := zah (SQ.out.hF _ List.mem_cons_self).2.2 0; have s1 := zah (SQ.out.hF _ List.mem_cons_self).2.2 1; have hu40 := Try.underlying40
  by_cases h3 : hd.toList = [127, 69, 76, 70, 1, 1, 1, 0, 0, 0, 0, 0, 0, 0, 0, 0]
  · have H16 := Lib.hid (HIH.out.1 h3)
    clear HIH t0 t1 s0 s1
    go_upto_region 6 with fail
    clear cv
    · skip
      go_upto_region 6 with fail
      go_cut [5] (fun s5 wx => ∃ g', s5 = .bool g' ∧ Hid (g' = (gotV L 16 2 == 2)) ∧ Hid (RS W wx gr L 18 [(W.heap.size, (.cells #[.int .u32 0, .slice none 0 0] 40 (0, 0)))] (.slice none 0 0) []))
      case first =>
        obtain ⟨x, hx⟩ : ∃ x, gotV L 16 2 = x := ⟨_, rfl⟩
        have C := SQ.out.num HL.out HLL.out 2 (by decide); rw [show ((2 : Nat) : Int) = 2 from rfl, hx] at C; have HX := Lib.hid hx; clear hx SQ
        go_wp2_with fail
        refine C.mono ?_
        clear C; rintro e w' ⟨rfl, q1⟩; have SN : Hid (RS W w' gr L 18 [(W.heap.size, (.cells #[.int .u32 0, .slice none 0 0] 40 (0, 0)))] (.slice none 0 0) []) := Lib.hid q1; clear q1
        by_cases hc : x = 2
        · have hc1 : (x == 2) = true := by rw [hc]; rfl
          go_wp2
          go_meet
          exact ⟨_, rfl, Lib.hid (by first | (rw [HX.out, hc1]; done) | (rw [HX.out, hc1]; rfl) | (rw [HX.out, hc1]; simp)), SN⟩
        · have hc1 : (x == 2) = false := by simpa using hc
          go_wp2
          go_meet
          exact ⟨_, rfl, Lib.hid (by first | (rw [HX.out, hc1]; done) | (rw [HX.out, hc1]; rfl) | (rw [HX.out, hc1]; simp)), SN⟩
      case rest =>
      obtain ⟨g6, rfl, G6, SN⟩ := hcut; clear SQ; have SQ := SN; clear SN

      go_upto_region 7 with fail
      go_cut [5] (fun s5 wx => ∃ g', s5 = .bool g' ∧ Hid (g' = ((gotV L 18 2 == 243) && g6)) ∧ Hid (RS W wx gr L 20 [(W.heap.size, (.cells #[.int .u32 0, .slice none 0 0] 40 (0, 0)))] (.slice none 0 0) []))
      case first =>
        obtain ⟨x, hx⟩ : ∃ x, gotV L 18 2 = x := ⟨_, rfl⟩
        have C := SQ.out.num HL.out HLL.out 2 (by decide); rw [show ((2 : Nat) : Int) = 2 from rfl, hx] at C; have HX := Lib.hid hx; clear hx SQ
        go_wp2_with fail
        refine C.mono ?_
        clear C; rintro e w' ⟨rfl, q1⟩; have SN : Hid (RS W w' gr L 20 [(W.heap.size, (.cells #[.int .u32 0, .slice none 0 0] 40 (0, 0)))] (.slice none 0 0) []) := Lib.hid q1; clear q1
        by_cases hc : x = 243
        · have hc1 : (x == 243) = true := by rw [hc]; rfl
          go_wp2
          go_meet
          exact ⟨_, rfl, Lib.hid (by first | (rw [HX.out, hc1]; done) | (rw [HX.out, hc1]; rfl) | (rw [HX.out, hc1]; simp)), SN⟩
        · have hc1 : (x == 243) = false := by simpa using hc
          go_wp2
          go_meet
          exact ⟨_, rfl, Lib.hid (by first | (rw [HX.out, hc1]; done) | (rw [HX.out, hc1]; rfl) | (rw [HX.out, hc1]; simp)), SN⟩
      case rest =>
      obtain ⟨g7, rfl, G7, SN⟩ := hcut; clear SQ; have SQ := SN; clear SN

      go_upto_region 8 with fail
      go_cut [5] (fun s5 wx => ∃ g', s5 = .bool g' ∧ Hid (g' = ((gotV L 20 4 == 1) && g7)) ∧ Hid (RS W wx gr L 24 [(W.heap.size, (.cells #[.int .u32 0, .slice none 0 0] 40 (0, 0)))] (.slice none 0 0) []))
      case first =>
        obtain ⟨x, hx⟩ : ∃ x, gotV L 20 4 = x := ⟨_, rfl⟩
        have C := SQ.out.num HL.out HLL.out 4 (by decide); rw [show ((4 : Nat) : Int) = 4 from rfl, hx] at C; have HX := Lib.hid hx; clear hx SQ
        go_wp2_with fail
        refine C.mono ?_
        clear C; rintro e w' ⟨rfl, q1⟩; have SN : Hid (RS W w' gr L 24 [(W.heap.size, (.cells #[.int .u32 0, .slice none 0 0] 40 (0, 0)))] (.slice none 0 0) []) := Lib.hid q1; clear q1
        by_cases hc : x = 1
        · have hc1 : (x == 1) = true := by rw [hc]; rfl
          go_wp2
          go_meet
          exact ⟨_, rfl, Lib.hid (by first | (rw [HX.out, hc1]; done) | (rw [HX.out, hc1]; rfl) | (rw [HX.out, hc1]; simp)), SN⟩
        · have hc1 : (x == 1) = false := by simpa using hc
          go_wp2
          go_meet
          exact ⟨_, rfl, Lib.hid (by first | (rw [HX.out, hc1]; done) | (rw [HX.out, hc1]; rfl) | (rw [HX.out, hc1]; simp)), SN⟩
      case rest =>
      obtain ⟨g8, rfl, G8, SN⟩ := hcut; clear SQ; have SQ := SN; clear SN

      go_upto_region 9 with fail
      obtain ⟨e0, he0⟩ : ∃ x, gotV L 24 4 = x := ⟨_, rfl⟩
      have C := SQ.out.num HL.out HLL.out 4 (by decide); rw [show ((4 : Nat) : Int) = 4 from rfl, he0] at C; have HE0 := Lib.hid he0; clear he0
      go_wp2_with fail
      refine C.mono ?_
      clear C SQ; rintro e w2 ⟨rfl, q1⟩; have SN := Lib.hid q1; clear q1
      go_upto_region 10 with fail
      obtain ⟨w3, hw3⟩ : ∃ w3, w3 = w2.alloc (.cells #[.int .u32 e0, .slice none 0 0] 40) := ⟨_, rfl⟩
      obtain ⟨gi, hgi⟩ : ∃ gi, gi = w2.heap.size := ⟨_, rfl⟩
      have SQ : Hid (RS W w3 gr L 28 [(gi, .cells #[.int .u32 e0, .slice none 0 0] 40 (0, 0)), (W.heap.size, (.cells #[.int .u32 0, .slice none 0 0] 40 (0, 0)))] (.slice none 0 0) []) := Lib.hid (by rw [hw3, hgi]; exact SN.out.alloc _ _); have GI : Hid (gi ≠ W.heap.size) := Lib.hid (by rw [hgi]; have := za3 (SN.out.hF _ List.mem_cons_self).2.2; exact fun e => by simp at this; omega); rw [← hw3, ← hgi]; clear hw3 hgi SN

      go_upto_region 10 with fail
      go_cut [5] (fun s5 wx => ∃ g', s5 = .bool g' ∧ Hid (g' = ((gotV L 28 4 == 52) && g8)) ∧ Hid (RS W wx gr L 32 [(gi, .cells #[.int .u32 e0, .slice none 0 0] 40 (0, 0)), (W.heap.size, (.cells #[.int .u32 0, .slice none 0 0] 40 (0, 0)))] (.slice none 0 0) []))
      case first =>
        obtain ⟨x, hx⟩ : ∃ x, gotV L 28 4 = x := ⟨_, rfl⟩
        have C := SQ.out.num HL.out HLL.out 4 (by decide); rw [show ((4 : Nat) : Int) = 4 from rfl, hx] at C; have HX := Lib.hid hx; clear hx SQ
        go_wp2_with fail
        refine C.mono ?_
        clear C; rintro e w' ⟨rfl, q1⟩; have SN : Hid (RS W w' gr L 32 [(gi, .cells #[.int .u32 e0, .slice none 0 0] 40 (0, 0)), (W.heap.size, (.cells #[.int .u32 0, .slice none 0 0] 40 (0, 0)))] (.slice none 0 0) []) := Lib.hid q1; clear q1
        by_cases hc : x = 52
        · have hc1 : (x == 52) = true := by rw [hc]; rfl
          go_wp2
          go_meet
          exact ⟨_, rfl, Lib.hid (by first | (rw [HX.out, hc1]; done) | (rw [HX.out, hc1]; rfl) | (rw [HX.out, hc1]; simp)), SN⟩
        · have hc1 : (x == 52) = false := by simpa using hc
          go_wp2
          go_meet
          exact ⟨_, rfl, Lib.hid (by first | (rw [HX.out, hc1]; done) | (rw [HX.out, hc1]; rfl) | (rw [HX.out, hc1]; simp)), SN⟩
      case rest =>
      obtain ⟨g10, rfl, G10, SN⟩ := hcut; clear SQ; have SQ := SN; clear SN

      go_upto_region 11 with fail
      have C := SQ.out.num HL.out HLL.out 4 (by decide); rw [show ((4 : Nat) : Int) = 4 from rfl] at C
      go_wp2_with fail
      refine C.mono ?_
      clear C; rintro e w' ⟨rfl, q1⟩; have SN : Hid (RS W w' gr L 36 [(gi, .cells #[.int .u32 e0, .slice none 0 0] 40 (0, 0)), (W.heap.size, (.cells #[.int .u32 0, .slice none 0 0] 40 (0, 0)))] (.slice none 0 0) []) := Lib.hid q1; clear q1 SQ; have SQ := SN; clear SN

      go_upto_region 12 with fail
      have C := SQ.out.num HL.out HLL.out 4 (by decide); rw [show ((4 : Nat) : Int) = 4 from rfl] at C
      go_wp2_with fail
      refine C.mono ?_
      clear C; rintro e w' ⟨rfl, q1⟩; have SN : Hid (RS W w' gr L 40 [(gi, .cells #[.int .u32 e0, .slice none 0 0] 40 (0, 0)), (W.heap.size, (.cells #[.int .u32 0, .slice none 0 0] 40 (0, 0)))] (.slice none 0 0) []) := Lib.hid q1; clear q1 SQ; have SQ := SN; clear SN

      go_upto_region 13 with fail
      go_cut [5] (fun s5 wx => ∃ g', s5 = .bool g' ∧ Hid (g' = ((gotV L 40 2 == 52) && g10)) ∧ Hid (RS W wx gr L 42 [(gi, .cells #[.int .u32 e0, .slice none 0 0] 40 (0, 0)), (W.heap.size, (.cells #[.int .u32 0, .slice none 0 0] 40 (0, 0)))] (.slice none 0 0) []))
      case first =>
        obtain ⟨x, hx⟩ : ∃ x, gotV L 40 2 = x := ⟨_, rfl⟩
        have C := SQ.out.num HL.out HLL.out 2 (by decide); rw [show ((2 : Nat) : Int) = 2 from rfl, hx] at C; have HX := Lib.hid hx; clear hx SQ
        go_wp2_with fail
        refine C.mono ?_
        clear C; rintro e w' ⟨rfl, q1⟩; have SN : Hid (RS W w' gr L 42 [(gi, .cells #[.int .u32 e0, .slice none 0 0] 40 (0, 0)), (W.heap.size, (.cells #[.int .u32 0, .slice none 0 0] 40 (0, 0)))] (.slice none 0 0) []) := Lib.hid q1; clear q1
        by_cases hc : x = 52
        · have hc1 : (x == 52) = true := by rw [hc]; rfl
          go_wp2
          go_meet
          exact ⟨_, rfl, Lib.hid (by first | (rw [HX.out, hc1]; done) | (rw [HX.out, hc1]; rfl) | (rw [HX.out, hc1]; simp)), SN⟩
        · have hc1 : (x == 52) = false := by simpa using hc
          go_wp2
          go_meet
          exact ⟨_, rfl, Lib.hid (by first | (rw [HX.out, hc1]; done) | (rw [HX.out, hc1]; rfl) | (rw [HX.out, hc1]; simp)), SN⟩
      case rest =>
      obtain ⟨g13, rfl, G13, SN⟩ := hcut; clear SQ; have SQ := SN; clear SN

      go_upto_region 14 with fail
      go_cut [5] (fun s5 wx => ∃ g', s5 = .bool g' ∧ Hid (g' = ((gotV L 42 2 == 32) && g13)) ∧ Hid (RS W wx gr L 44 [(gi, .cells #[.int .u32 e0, .slice none 0 0] 40 (0, 0)), (W.heap.size, (.cells #[.int .u32 0, .slice none 0 0] 40 (0, 0)))] (.slice none 0 0) []))
      case first =>
        obtain ⟨x, hx⟩ : ∃ x, gotV L 42 2 = x := ⟨_, rfl⟩
        have C := SQ.out.num HL.out HLL.out 2 (by decide); rw [show ((2 : Nat) : Int) = 2 from rfl, hx] at C; have HX := Lib.hid hx; clear hx SQ
        go_wp2_with fail
        refine C.mono ?_
        clear C; rintro e w' ⟨rfl, q1⟩; have SN : Hid (RS W w' gr L 44 [(gi, .cells #[.int .u32 e0, .slice none 0 0] 40 (0, 0)), (W.heap.size, (.cells #[.int .u32 0, .slice none 0 0] 40 (0, 0)))] (.slice none 0 0) []) := Lib.hid q1; clear q1
        by_cases hc : x = 32
        · have hc1 : (x == 32) = true := by rw [hc]; rfl
          go_wp2
          go_meet
          exact ⟨_, rfl, Lib.hid (by first | (rw [HX.out, hc1]; done) | (rw [HX.out, hc1]; rfl) | (rw [HX.out, hc1]; simp)), SN⟩
        · have hc1 : (x == 32) = false := by simpa using hc
          go_wp2
          go_meet
          exact ⟨_, rfl, Lib.hid (by first | (rw [HX.out, hc1]; done) | (rw [HX.out, hc1]; rfl) | (rw [HX.out, hc1]; simp)), SN⟩
      case rest =>
      obtain ⟨g14, rfl, G14, SN⟩ := hcut; clear SQ; have SQ := SN; clear SN

      go_upto_region 15 with fail
      obtain ⟨nn, hnn⟩ : ∃ nn : Nat, gotV L 44 2 = (nn : Int) := ⟨(gotV L 44 2).toNat, by have := (zcd HL.out 44 2).1; omega⟩
      have nn0 : nn < 65536 := by have := (zcd HL.out 44 2).2; rw [hnn] at this; omega
      have C := SQ.out.num HL.out HLL.out 2 (by decide); rw [show ((2 : Nat) : Int) = 2 from rfl, hnn] at C; have NN := Lib.hid hnn; clear hnn
      go_wp2_with fail
      refine C.mono ?_
      clear C; rintro e w4 ⟨rfl, q1⟩; have SN : Hid (RS W w4 gr L 46 [(gi, .cells #[.int .u32 e0, .slice none 0 0] 40 (0, 0)), (W.heap.size, (.cells #[.int .u32 0, .slice none 0 0] 40 (0, 0)))] (.slice none 0 0) []) := Lib.hid q1; clear q1 SQ; have C := SN.out.bytes HLL.out 6 (by decide) (by decide); rw [show ((6 : Nat) : Int) = 6 from rfl] at C
      go_upto_region 16 with fail
      go_wp2_with fail
      refine C.mono ?_
      clear C; rintro e w5 ⟨v5, rfl, q1, q2⟩; have SQ : Hid (RS W w5 gr L 52 [(gi, .cells #[.int .u32 e0, .slice none 0 0] 40 (0, 0)), (W.heap.size, (.cells #[.int .u32 0, .slice none 0 0] 40 (0, 0)))] (.slice none 0 0) []) := Lib.hid q1; clear q1 q2 SN; have hbad := SQ.out.badc
      obtain ⟨bd, hbd⟩ : ∃ bd, bd = decide (L.length < 52) := ⟨_, rfl⟩
      rw [← hbd] at hbad; have HBD := Lib.hid hbd
      have HOK : Hid ((bd = false ∧ g14 = true) ↔ zdr L) := by
        refine Lib.hid ⟨fun h => ?_, fun h => ?_⟩
        · have h52 : 52 ≤ L.length := by have := h.1; rw [hbd] at this; have := of_decide_eq_false this; omega
          have hg := h.2; rw [G14.out, G13.out, G10.out, G8.out, G7.out, G6.out, zbv (by omega), zbv (by omega), zbv (by omega), zbv (by omega), zbv (by omega), zbv (by omega)] at hg; simp only [Bool.and_eq_true, beq_iff_eq] at hg; obtain ⟨a1, a2, a3, a4, a5, a6⟩ := hg
          exact ⟨h52, H16.out.2, a6, a5, a4, a3, a2, a1⟩
        · obtain ⟨h52, a0, a6, a5, a4, a3, a2, a1⟩ := h
          refine ⟨by rw [hbd]; exact decide_eq_false (by omega), ?_⟩
          rw [G14.out, G13.out, G10.out, G8.out, G7.out, G6.out, zbv (by omega), zbv (by omega), zbv (by omega), zbv (by omega), zbv (by omega), zbv (by omega)]
          simp only [Bool.and_eq_true, beq_iff_eq]
          exact ⟨a1, a2, a3, a4, a5, a6⟩
      clear hbd H16 G6 G7 G8 G10 G13 G14
      by_cases hk : bd = false ∧ g14 = true
      · obtain ⟨rfl, rfl⟩ := hk
        have OK := Lib.hid (HOK.out.1 ⟨rfl, rfl⟩); clear HOK
        by_cases h8 : 8 < nn
        · have NO : Hid (getI L = (0, [], 2)) := Lib.hid (getI_many OK.out (by rw [show n2 L 44 = gotV L 44 2 from (zbv (by have := OK.out.1; omega)).symm, NN.out]; omega))
          have t0 := (zai (SQ.out.hF _ (List.mem_cons_of_mem _ (List.mem_cons_self))).2.2 0).trans rfl; have t1 := (zai (SQ.out.hF _ (List.mem_cons_of_mem _ (List.mem_cons_self))).2.2 1).trans rfl; have s0 := zah (SQ.out.hF _ (List.mem_cons_of_mem _ (List.mem_cons_self))).2.2 0; have s1 := zah (SQ.out.hF _ (List.mem_cons_of_mem _ (List.mem_cons_self))).2.2 1; go_wp2
          exact zdt NO.out SQ.out.hB (SQ.out.hF _ (List.mem_cons_of_mem _ (List.mem_cons_self))).2.2 _ rfl rfl
        · have S0 : Hid (∃ A1 n1 c1, RS W w5 gr L (52 + 32 * 0) [(gi, .cells #[.int .u32 e0, .slice A1 n1 c1] 40 (0, 0)), (W.heap.size, (.cells #[.int .u32 0, .slice none 0 0] 40 (0, 0)))] (.slice A1 n1 c1) ((segs L 0).map c65)) := Lib.hid ⟨none, 0, 0, SQ.out⟩
          clear SQ
          have hz0 : ∀ q, q < 0 → okSeg L (52 + 32 * q) := fun q h => absurd h (by omega)
          have HZ0 := Lib.hid hz0; clear hz0; go_wp2; clear hbad
          go_loopw [8, 5] (fun i g wr => ∃ j : Nat, j ≤ nn ∧ i = .int .u32 j ∧ g = .bool true ∧ Hid (∃ A1 n1 c1, RS W wr gr L (52 + 32 * j) [(gi, .cells #[.int .u32 e0, .slice A1 n1 c1] 40 (0, 0)), (W.heap.size, (.cells #[.int .u32 0, .slice none 0 0] 40 (0, 0)))] (.slice A1 n1 c1) ((segs L j).map c65)) ∧ Hid (∀ q, q < j → okSeg L (52 + 32 * q))) (fun i _ _ => nn - (intOf i).toNat)
          case atStart => exact ⟨0, by omega, rfl, rfl, S0, HZ0⟩
          case round =>
            obtain ⟨j, hj, rfl, rfl, hS, HQ⟩ := hrel; clear S0 HZ0; obtain ⟨A1, n1, c1, S1⟩ := hS.out; have SQ := Lib.hid S1; clear S1 hS
            by_cases hlt : j < nn
            · skip
              obtain ⟨y0, hy0⟩ : ∃ x, gotV L (52 + 32 * j) 4 = x := ⟨_, rfl⟩
              have b0 : 0 ≤ y0 ∧ y0 < 4294967296 := by rw [← hy0]; exact zcd HL.out _ 4
              have Y0 := Lib.hid hy0
              obtain ⟨y1, hy1⟩ : ∃ x, gotV L (52 + 32 * j + 4) 4 = x := ⟨_, rfl⟩
              have b1 : 0 ≤ y1 ∧ y1 < 4294967296 := by rw [← hy1]; exact zcd HL.out _ 4
              have Y1 := Lib.hid hy1
              obtain ⟨y2, hy2⟩ : ∃ x, gotV L (52 + 32 * j + 8) 4 = x := ⟨_, rfl⟩
              have b2 : 0 ≤ y2 ∧ y2 < 4294967296 := by rw [← hy2]; exact zcd HL.out _ 4
              have Y2 := Lib.hid hy2
              obtain ⟨y3, hy3⟩ : ∃ x, gotV L (52 + 32 * j + 12) 4 = x := ⟨_, rfl⟩
              have b3 : 0 ≤ y3 ∧ y3 < 4294967296 := by rw [← hy3]; exact zcd HL.out _ 4
              have Y3 := Lib.hid hy3
              obtain ⟨y4, hy4⟩ : ∃ x, gotV L (52 + 32 * j + 16) 4 = x := ⟨_, rfl⟩
              have b4 : 0 ≤ y4 ∧ y4 < 4294967296 := by rw [← hy4]; exact zcd HL.out _ 4
              have Y4 := Lib.hid hy4
              obtain ⟨y5, hy5⟩ : ∃ x, gotV L (52 + 32 * j + 20) 4 = x := ⟨_, rfl⟩
              have b5 : 0 ≤ y5 ∧ y5 < 4294967296 := by rw [← hy5]; exact zcd HL.out _ 4
              have Y5 := Lib.hid hy5
              obtain ⟨y6, hy6⟩ : ∃ x, gotV L (52 + 32 * j + 24) 4 = x := ⟨_, rfl⟩
              have b6 : 0 ≤ y6 ∧ y6 < 4294967296 := by rw [← hy6]; exact zcd HL.out _ 4
              have Y6 := Lib.hid hy6
              obtain ⟨y7, hy7⟩ : ∃ x, gotV L (52 + 32 * j + 28) 4 = x := ⟨_, rfl⟩
              have b7 : 0 ≤ y7 ∧ y7 < 4294967296 := by rw [← hy7]; exact zcd HL.out _ 4
              have Y7 := Lib.hid hy7; have HOS : Hid (okSeg L (52 + 32 * j) ↔ (52 + 32 * j + 32 ≤ L.length ∧ y0 = 1 ∧ y3 = y2 ∧ y6 ≤ 7 ∧ y7 = 256 ∧ y1 + y4 ≤ L.length)) := Lib.hid (by rw [okSeg_got, hy0, hy1, hy2, hy3, hy4, hy6, hy7]); have HSG : Hid (52 + 32 * j + 32 ≤ L.length → segAt L (52 + 32 * j) = ⟨y2, y5, turn y6, (L.take (y1 + y4).toNat).drop y1.toNat⟩) := Lib.hid (fun h => by rw [zil h, hy1, hy2, hy4, hy5, hy6]); clear hy0 hy1 hy2 hy3 hy4 hy5 hy6 hy7
              go_upto_region 24 with fail
              go_cut [5] (fun s5 wx => ∃ g', s5 = .bool g' ∧ Hid (g' = (y0 == 1)) ∧ Hid (RS W wx gr L (52 + 32 * j + 4) [(gi, .cells #[.int .u32 e0, .slice A1 n1 c1] 40 (0, 0)), (W.heap.size, (.cells #[.int .u32 0, .slice none 0 0] 40 (0, 0)))] (.slice A1 n1 c1) ((segs L j).map c65)))
              case first =>
                have C := SQ.out.num HL.out HLL.out 4 (by decide); rw [show ((4 : Nat) : Int) = 4 from rfl, Y0.out] at C
                go_wp2_with fail
                refine C.mono ?_
                clear C; rintro e w24 ⟨rfl, q1⟩; have SN : Hid (RS W w24 gr L (52 + 32 * j + 4) [(gi, .cells #[.int .u32 e0, .slice A1 n1 c1] 40 (0, 0)), (W.heap.size, (.cells #[.int .u32 0, .slice none 0 0] 40 (0, 0)))] (.slice A1 n1 c1) ((segs L j).map c65)) := Lib.hid q1; clear q1 SQ; have SQ := SN; clear SN

                by_cases hc : y0 = 1
                · have hc1 : (y0 == 1) = true := by rw [hc]; rfl
                  go_wp2
                  go_meet
                  exact ⟨_, rfl, Lib.hid (by first | (rw [hc1]; done) | rfl | simp), SQ⟩
                · have hc1 : (y0 == 1) = false := by simpa using hc
                  go_wp2
                  go_meet
                  exact ⟨_, rfl, Lib.hid (by first | (rw [hc1]; done) | rfl | simp), SQ⟩
              case rest =>
              obtain ⟨g24, rfl, G24, SN⟩ := hcut; clear SQ; have SQ := SN; clear SN
              go_upto_region 25 with fail
              have C := SQ.out.num HL.out HLL.out 4 (by decide); rw [show ((4 : Nat) : Int) = 4 from rfl, Y1.out] at C
              go_wp2_with fail
              refine C.mono ?_
              clear C; rintro e w25 ⟨rfl, q1⟩; have SN : Hid (RS W w25 gr L (52 + 32 * j + 8) [(gi, .cells #[.int .u32 e0, .slice A1 n1 c1] 40 (0, 0)), (W.heap.size, (.cells #[.int .u32 0, .slice none 0 0] 40 (0, 0)))] (.slice A1 n1 c1) ((segs L j).map c65)) := Lib.hid q1; clear q1 SQ; have SQ := SN; clear SN
              go_upto_region 26 with fail
              have C := SQ.out.num HL.out HLL.out 4 (by decide); rw [show ((4 : Nat) : Int) = 4 from rfl, Y2.out] at C
              go_wp2_with fail
              refine C.mono ?_
              clear C; rintro e w26 ⟨rfl, q1⟩; have SN : Hid (RS W w26 gr L (52 + 32 * j + 12) [(gi, .cells #[.int .u32 e0, .slice A1 n1 c1] 40 (0, 0)), (W.heap.size, (.cells #[.int .u32 0, .slice none 0 0] 40 (0, 0)))] (.slice A1 n1 c1) ((segs L j).map c65)) := Lib.hid q1; clear q1 SQ; have SQ := SN; clear SN
              go_upto_region 27 with fail
              obtain ⟨w27, hw27⟩ : ∃ w', w' = w26.alloc (.cells #[.int .u32 y2, .int .u32 0, .int .i64 0, .slice none 0 0] 65) := ⟨_, rfl⟩
              obtain ⟨gs, hgs⟩ : ∃ g, g = w26.heap.size := ⟨_, rfl⟩
              have SN : Hid (RS W w27 gr L (52 + 32 * j + 12) [(gs, .cells #[.int .u32 y2, .int .u32 0, .int .i64 0, .slice none 0 0] 65 (0, 0)), (gi, .cells #[.int .u32 e0, .slice A1 n1 c1] 40 (0, 0)), (W.heap.size, (.cells #[.int .u32 0, .slice none 0 0] 40 (0, 0)))] (.slice A1 n1 c1) ((segs L j).map c65)) := Lib.hid (by rw [hw27, hgs]; exact SQ.out.alloc _ _)
              have GS : Hid (gs ≠ gi ∧ gs ≠ W.heap.size) := Lib.hid (by
                rw [hgs]; have a1 := za3 (SQ.out.hF _ List.mem_cons_self).2.2; have a2 := za3 (SQ.out.hF _ (List.mem_cons_of_mem _ List.mem_cons_self)).2.2
                simp only at a1 a2
                exact ⟨by omega, by omega⟩)
              rw [← hw27, ← hgs]; clear hw27 hgs SQ; have SQ := SN; clear SN
              go_cut [5] (fun s5 wx => ∃ g', s5 = .bool g' ∧ Hid (g' = ((y3 == y2) && g24)) ∧ Hid (RS W wx gr L (52 + 32 * j + 16) [(gs, .cells #[.int .u32 y2, .int .u32 0, .int .i64 0, .slice none 0 0] 65 (0, 0)), (gi, .cells #[.int .u32 e0, .slice A1 n1 c1] 40 (0, 0)), (W.heap.size, (.cells #[.int .u32 0, .slice none 0 0] 40 (0, 0)))] (.slice A1 n1 c1) ((segs L j).map c65)))
              case first =>
                by_cases hc : y3 = y2
                · skip
                  have hc1 : (y3 == y2) = true := by rw [hc]; simp
                  go_wp2; have SD := Lib.hid (SQ.out.below (zce (Below.refl _ _))); have d1 : (World.drew w27).cell? ⟨gs, 0, none⟩ = some (.int .u32 y2) := (zai (SD.out.hF _ List.mem_cons_self).2.2 0).trans rfl; clear SQ; have SQ := SD; clear SD
                  refine zcu (n := 9) (S := fun w' => w'.cell? ⟨gs, 0, none⟩ = some (.int .u32 y2)) (ds := []) qmg_0 (by kernel_rfl) rfl rfl (d1) (fun hHeld => ?_)
                  refine pure_ (i := 0) (N := some 95) (v := ?_) (a' := ?_) qmg_1 rfl rfl (by kernel_rfl) (fun _ _ _ h => h) (Or.inl ⟨by rfl, ?_⟩) ?_ ?_
                  rotate_left; (· intro w'; go_simp; with_reducible rfl); rotate_left; (· simp only [Act.put, List.setIfInBounds_toArray, List.set_cons_zero, List.set_cons_succ, i64_w, i32_w]; rfl)
                  refine pure_ (i := 2) (N := some 97) (v := ?_) (a' := ?_) qmg_2 rfl rfl (by kernel_rfl) (fun _ _ _ h => h) (Or.inl ⟨by rfl, ?_⟩) ?_ ?_
                  rotate_left; (· intro w'; go_simp; with_reducible rfl); rotate_left; (· simp only [Act.put, List.setIfInBounds_toArray, List.set_cons_zero, List.set_cons_succ, i64_w, i32_w]; rfl)
                  refine take_ (i := 3) (N := some 98) (v := ?_) (a' := ?_) qmg_3 rfl rfl (by kernel_rfl) (fun _ _ _ h => h) (Or.inl ⟨by rfl, ?_⟩) hHeld ?_ ?_
                  rotate_left; (· intro w' s0; go_simp; with_reducible rfl); rotate_left; (· simp only [Act.put, List.setIfInBounds_toArray, List.set_cons_zero, List.set_cons_succ, i64_w, i32_w]; rfl)
                  refine one_ (i := 1) (N := some 96) qmg_4 rfl rfl (by kernel_rfl) (by decide) (fun K hK => ?_)
                  refine goes_ Try.func29 (by kernel_rfl) rfl #[.pointer (some ⟨gr, 0, none⟩), .int .i64 4] (by rfl) rfl rfl (by simp only [List.map_toArray, List.map_cons, List.map_nil]; rfl) ?_
                  have C := SQ.out.num HL.out HLL.out 4 (by decide); rw [show ((4 : Nat) : Int) = 4 from rfl, Y3.out] at C
                  refine C.mono ?_
                  clear C; rintro e w28 ⟨rfl, q1⟩; have SN : Hid (RS W w28 gr L (52 + 32 * j + 16) [(gs, .cells #[.int .u32 y2, .int .u32 0, .int .i64 0, .slice none 0 0] 65 (0, 0)), (gi, .cells #[.int .u32 e0, .slice A1 n1 c1] 40 (0, 0)), (W.heap.size, (.cells #[.int .u32 0, .slice none 0 0] 40 (0, 0)))] (.slice A1 n1 c1) ((segs L j).map c65)) := Lib.hid q1; have d2 : w28.cell? ⟨gs, 0, none⟩ = some (.int .u32 y2) := (zai (q1.hF _ List.mem_cons_self).2.2 0).trans rfl; clear q1 SQ; refine ⟨_, rfl, ?_⟩
                  refine hK.out _ _ (d2) (fun hHeld => ?_)
                  clear hK K
                  refine norm_ (a' := ?_) ?_ ?_
                  rotate_left
                  · show Act.put _ (some 96) _ = _
                    simp only [Act.put, List.setIfInBounds_toArray, List.set_cons_zero, List.set_cons_succ, i64_w, i32_w]
                    rfl
                  refine pure_ (i := 4) (N := some 99) (v := ?_) (a' := ?_) qmg_5 rfl rfl (by kernel_rfl) (fun _ _ _ h => h) (Or.inl ⟨by rfl, ?_⟩) ?_ ?_
                  rotate_left; (· intro w'; go_simp; with_reducible rfl); rotate_left; (· simp only [Act.put, List.setIfInBounds_toArray, List.set_cons_zero, List.set_cons_succ, i64_w, i32_w]; rfl)
                  refine pure_ (i := 5) (N := some 100) (v := ?_) (a' := ?_) qmg_6 rfl rfl (by kernel_rfl) (fun _ _ _ h => h) (Or.inl ⟨by rfl, ?_⟩) ?_ ?_
                  rotate_left; (· intro w'; go_simp; with_reducible rfl); rotate_left; (· simp only [Act.put, List.setIfInBounds_toArray, List.set_cons_zero, List.set_cons_succ, i64_w, i32_w]; rfl)
                  refine pure_ (i := 6) (N := some 101) (v := ?_) (a' := ?_) qmg_7 rfl rfl (by kernel_rfl) (fun _ _ _ h => h) (Or.inl ⟨by rfl, ?_⟩) ?_ ?_
                  rotate_left; (· intro w'; go_simp; with_reducible rfl); rotate_left; (· simp only [Act.put, List.setIfInBounds_toArray, List.set_cons_zero, List.set_cons_succ, i64_w, i32_w]; rfl)
                  refine pure_ (i := 7) (N := some 102) (v := ?_) (a' := ?_) qmg_8 rfl rfl (by kernel_rfl) (fun _ _ _ h => h) (Or.inl ⟨by rfl, ?_⟩) ?_ ?_
                  rotate_left; (· intro w'; go_simp; with_reducible rfl); rotate_left; (· simp only [Act.put, List.setIfInBounds_toArray, List.set_cons_zero, List.set_cons_succ, i64_w, i32_w]; rfl)
                  refine pure_ (i := 8) (N := some 5) (v := ?_) (a' := ?_) qmg_9 rfl rfl (by kernel_rfl) (fun _ _ _ h => h) (Or.inl ⟨by rfl, ?_⟩) ?_ ?_
                  rotate_left; (· intro w'; go_simp; with_reducible rfl); rotate_left; (· simp only [Act.put, List.setIfInBounds_toArray, List.set_cons_zero, List.set_cons_succ, i64_w, i32_w]; rfl)
                  refine done_ (by kernel_rfl) ?_
                  go_wp2
                  go_meet
                  exact ⟨_, rfl, Lib.hid (by rw [hc1]; simp), SN⟩

                · skip
                  have hc1 : (y3 == y2) = false := by simpa using hc
                  go_wp2; have SD := Lib.hid (SQ.out.below (zce (Below.refl _ _))); have d1 : (World.drew w27).cell? ⟨gs, 0, none⟩ = some (.int .u32 y2) := (zai (SD.out.hF _ List.mem_cons_self).2.2 0).trans rfl; clear SQ; have SQ := SD; clear SD
                  refine zcu (n := 9) (S := fun w' => w'.cell? ⟨gs, 0, none⟩ = some (.int .u32 y2)) (ds := []) qmg_0 (by kernel_rfl) rfl rfl (d1) (fun hHeld => ?_)
                  refine pure_ (i := 0) (N := some 95) (v := ?_) (a' := ?_) qmg_1 rfl rfl (by kernel_rfl) (fun _ _ _ h => h) (Or.inl ⟨by rfl, ?_⟩) ?_ ?_
                  rotate_left; (· intro w'; go_simp; with_reducible rfl); rotate_left; (· simp only [Act.put, List.setIfInBounds_toArray, List.set_cons_zero, List.set_cons_succ, i64_w, i32_w]; rfl)
                  refine pure_ (i := 2) (N := some 97) (v := ?_) (a' := ?_) qmg_2 rfl rfl (by kernel_rfl) (fun _ _ _ h => h) (Or.inl ⟨by rfl, ?_⟩) ?_ ?_
                  rotate_left; (· intro w'; go_simp; with_reducible rfl); rotate_left; (· simp only [Act.put, List.setIfInBounds_toArray, List.set_cons_zero, List.set_cons_succ, i64_w, i32_w]; rfl)
                  refine take_ (i := 3) (N := some 98) (v := ?_) (a' := ?_) qmg_3 rfl rfl (by kernel_rfl) (fun _ _ _ h => h) (Or.inl ⟨by rfl, ?_⟩) hHeld ?_ ?_
                  rotate_left; (· intro w' s0; go_simp; with_reducible rfl); rotate_left; (· simp only [Act.put, List.setIfInBounds_toArray, List.set_cons_zero, List.set_cons_succ, i64_w, i32_w]; rfl)
                  refine one_ (i := 1) (N := some 96) qmg_4 rfl rfl (by kernel_rfl) (by decide) (fun K hK => ?_)
                  refine goes_ Try.func29 (by kernel_rfl) rfl #[.pointer (some ⟨gr, 0, none⟩), .int .i64 4] (by rfl) rfl rfl (by simp only [List.map_toArray, List.map_cons, List.map_nil]; rfl) ?_
                  have C := SQ.out.num HL.out HLL.out 4 (by decide); rw [show ((4 : Nat) : Int) = 4 from rfl, Y3.out] at C
                  refine C.mono ?_
                  clear C; rintro e w28 ⟨rfl, q1⟩; have SN : Hid (RS W w28 gr L (52 + 32 * j + 16) [(gs, .cells #[.int .u32 y2, .int .u32 0, .int .i64 0, .slice none 0 0] 65 (0, 0)), (gi, .cells #[.int .u32 e0, .slice A1 n1 c1] 40 (0, 0)), (W.heap.size, (.cells #[.int .u32 0, .slice none 0 0] 40 (0, 0)))] (.slice A1 n1 c1) ((segs L j).map c65)) := Lib.hid q1; have d2 : w28.cell? ⟨gs, 0, none⟩ = some (.int .u32 y2) := (zai (q1.hF _ List.mem_cons_self).2.2 0).trans rfl; clear q1 SQ; refine ⟨_, rfl, ?_⟩
                  refine hK.out _ _ (d2) (fun hHeld => ?_)
                  clear hK K
                  refine norm_ (a' := ?_) ?_ ?_
                  rotate_left
                  · show Act.put _ (some 96) _ = _
                    simp only [Act.put, List.setIfInBounds_toArray, List.set_cons_zero, List.set_cons_succ, i64_w, i32_w]
                    rfl
                  refine pure_ (i := 4) (N := some 99) (v := ?_) (a' := ?_) qmg_5 rfl rfl (by kernel_rfl) (fun _ _ _ h => h) (Or.inl ⟨by rfl, ?_⟩) ?_ ?_
                  rotate_left; (· intro w'; go_simp; with_reducible rfl); rotate_left; (· simp only [Act.put, List.setIfInBounds_toArray, List.set_cons_zero, List.set_cons_succ, i64_w, i32_w]; rfl)
                  refine pure_ (i := 5) (N := some 100) (v := ?_) (a' := ?_) qmg_6 rfl rfl (by kernel_rfl) (fun _ _ _ h => h) (Or.inl ⟨by rfl, ?_⟩) ?_ ?_
                  rotate_left; (· intro w'; go_simp; with_reducible rfl); rotate_left; (· simp only [Act.put, List.setIfInBounds_toArray, List.set_cons_zero, List.set_cons_succ, i64_w, i32_w]; rfl)
                  refine pure_ (i := 6) (N := some 101) (v := undef) (a' := ?_) qmg_7 rfl rfl (by kernel_rfl) (fun _ _ _ h => h) (Or.inr ⟨by rfl, rfl⟩) ?_ ?_
                  rotate_left; (· simp only [Act.put, List.setIfInBounds_toArray, List.set_cons_zero, List.set_cons_succ, i64_w, i32_w]; rfl)
                  refine pure_ (i := 7) (N := some 102) (v := ?_) (a' := ?_) qmg_8 rfl rfl (by kernel_rfl) (fun _ _ _ h => h) (Or.inl ⟨by rfl, ?_⟩) ?_ ?_
                  rotate_left; (· intro w'; go_simp; with_reducible rfl); rotate_left; (· simp only [Act.put, List.setIfInBounds_toArray, List.set_cons_zero, List.set_cons_succ, i64_w, i32_w]; rfl)
                  refine pure_ (i := 8) (N := some 5) (v := ?_) (a' := ?_) qmg_9 rfl rfl (by kernel_rfl) (fun _ _ _ h => h) (Or.inl ⟨by rfl, ?_⟩) ?_ ?_
                  rotate_left; (· intro w'; go_simp; with_reducible rfl); rotate_left; (· simp only [Act.put, List.setIfInBounds_toArray, List.set_cons_zero, List.set_cons_succ, i64_w, i32_w]; rfl)
                  refine done_ (by kernel_rfl) ?_
                  go_wp2
                  go_meet
                  exact ⟨_, rfl, Lib.hid (by rw [hc1]; simp), SN⟩

              case rest =>
              obtain ⟨g27, rfl, G27, SN⟩ := hcut; clear SQ; have SQ := SN; clear SN
              have GSP : Hid (∀ p, p ∈ ([(gi, .cells #[.int .u32 e0, .slice A1 n1 c1] 40 (0, 0)), (W.heap.size, (.cells #[.int .u32 0, .slice none 0 0] 40 (0, 0)))] : List (Nat × Obj)) → p.1 ≠ gs) := Lib.hid (fun p hp => by
                rcases List.mem_cons.1 hp with rfl | hp
                · exact GS.out.1.symm
                · rw [List.mem_singleton.1 hp]; exact GS.out.2.symm)
              go_upto_region 28 with fail
              have C := SQ.out.num HL.out HLL.out 4 (by decide); rw [show ((4 : Nat) : Int) = 4 from rfl, Y4.out] at C
              go_wp2_with fail
              refine C.mono ?_
              clear C; rintro e w28 ⟨rfl, q1⟩; have SN : Hid (RS W w28 gr L (52 + 32 * j + 20) [(gs, .cells #[.int .u32 y2, .int .u32 0, .int .i64 0, .slice none 0 0] 65 (0, 0)), (gi, .cells #[.int .u32 e0, .slice A1 n1 c1] 40 (0, 0)), (W.heap.size, (.cells #[.int .u32 0, .slice none 0 0] 40 (0, 0)))] (.slice A1 n1 c1) ((segs L j).map c65)) := Lib.hid q1; clear q1 SQ; have SQ := SN; clear SN
              go_upto_region 29 with fail
              have C := SQ.out.num HL.out HLL.out 4 (by decide); rw [show ((4 : Nat) : Int) = 4 from rfl, Y5.out] at C
              go_wp2_with fail
              refine C.mono ?_
              clear C; rintro e w29 ⟨rfl, q1⟩; have SN : Hid (RS W w29 gr L (52 + 32 * j + 24) [(gs, .cells #[.int .u32 y2, .int .u32 0, .int .i64 0, .slice none 0 0] 65 (0, 0)), (gi, .cells #[.int .u32 e0, .slice A1 n1 c1] 40 (0, 0)), (W.heap.size, (.cells #[.int .u32 0, .slice none 0 0] 40 (0, 0)))] (.slice A1 n1 c1) ((segs L j).map c65)) := Lib.hid q1; clear q1 SQ; have SQ := SN; clear SN; have ff := zah (SQ.out.hF _ List.mem_cons_self).2.2 1; have fc := (zai (SQ.out.hF _ List.mem_cons_self).2.2 1).trans rfl
              go_upto_region 30 with fail
              clear ff fc
              obtain ⟨w30, hw⟩ : ∃ w', w' = w29.setCell ⟨gs, 1, none⟩ (.int .u32 y5) := ⟨_, rfl⟩
              have SN : Hid (RS W w30 gr L (52 + 32 * j + 24) [(gs, .cells #[.int .u32 y2, .int .u32 y5, .int .i64 0, .slice none 0 0] 65 (0, 0)), (gi, .cells #[.int .u32 e0, .slice A1 n1 c1] 40 (0, 0)), (W.heap.size, (.cells #[.int .u32 0, .slice none 0 0] 40 (0, 0)))] (.slice A1 n1 c1) ((segs L j).map c65)) := Lib.hid (by rw [hw]; exact SQ.out.set GSP.out 1 (.int .u32 y5)); rw [← hw]; clear hw SQ; have SQ := SN; clear SN; have C := SQ.out.num HL.out HLL.out 4 (by decide); rw [show ((4 : Nat) : Int) = 4 from rfl, Y6.out] at C
              go_wp2_with fail
              refine C.mono ?_
              clear C; rintro e w31 ⟨rfl, q1⟩; have SN : Hid (RS W w31 gr L (52 + 32 * j + 28) [(gs, .cells #[.int .u32 y2, .int .u32 y5, .int .i64 0, .slice none 0 0] 65 (0, 0)), (gi, .cells #[.int .u32 e0, .slice A1 n1 c1] 40 (0, 0)), (W.heap.size, (.cells #[.int .u32 0, .slice none 0 0] 40 (0, 0)))] (.slice A1 n1 c1) ((segs L j).map c65)) := Lib.hid q1; clear q1 SQ; have SQ := SN; clear SN
              go_upto_region 31 with fail
              go_cut [5] (fun s5 wx => ∃ g', s5 = .bool g' ∧ Hid (g' = ((y7 == 256) && decide (y6 ≤ 7) && g27)) ∧ Hid (RS W wx gr L (52 + 32 * j + 32) [(gs, .cells #[.int .u32 y2, .int .u32 y5, .int .i64 0, .slice none 0 0] 65 (0, 0)), (gi, .cells #[.int .u32 e0, .slice A1 n1 c1] 40 (0, 0)), (W.heap.size, (.cells #[.int .u32 0, .slice none 0 0] 40 (0, 0)))] (.slice A1 n1 c1) ((segs L j).map c65)))
              case first =>
                have C := SQ.out.num HL.out HLL.out 4 (by decide); rw [show ((4 : Nat) : Int) = 4 from rfl, Y7.out] at C
                go_wp2_with fail
                refine C.mono ?_
                clear C; rintro e w32 ⟨rfl, q1⟩; have SN : Hid (RS W w32 gr L (52 + 32 * j + 32) [(gs, .cells #[.int .u32 y2, .int .u32 y5, .int .i64 0, .slice none 0 0] 65 (0, 0)), (gi, .cells #[.int .u32 e0, .slice A1 n1 c1] 40 (0, 0)), (W.heap.size, (.cells #[.int .u32 0, .slice none 0 0] 40 (0, 0)))] (.slice A1 n1 c1) ((segs L j).map c65)) := Lib.hid q1; clear q1 SQ; have SQ := SN; clear SN

                by_cases hc : y7 = 256
                · have hc1 : (y7 == 256) = true := by rw [hc]; rfl
                  by_cases hd : y6 ≤ 7
                  · have hd1 : decide (y6 ≤ 7) = true := decide_eq_true hd
                    go_wp2
                    go_meet
                    exact ⟨_, rfl, Lib.hid (by rw [hc1, hd1]; simp), SQ⟩
                  · have hd1 : decide (y6 ≤ 7) = false := decide_eq_false hd
                    go_wp2
                    go_meet
                    exact ⟨_, rfl, Lib.hid (by rw [hc1, hd1]; simp), SQ⟩
                · have hc1 : (y7 == 256) = false := by simpa using hc
                  go_wp2
                  go_meet
                  exact ⟨_, rfl, Lib.hid (by rw [hc1]; simp), SQ⟩
              case rest =>
              obtain ⟨g31, rfl, G31, SN⟩ := hcut; clear SQ; have SQ := SN; clear SN; have hb := SQ.out.badc
              by_cases hbad : L.length < 52 + 32 * j + 28 + 4
              · have hb1 := hb
                rw [decide_eq_true hbad] at hb1; clear hb; have NO : Hid (getI L = (0, [], 3)) := Lib.hid (zgt OK.out (by rw [show n2 L 44 = gotV L 44 2 from (zbv (by have := OK.out.1; omega)).symm, NN.out]) (by omega) hlt (fun h => by have := (HOS.out.1 h).1; omega)); have t0 := (zai (SQ.out.hF _ (List.mem_cons_of_mem _ (List.mem_cons_of_mem _ (List.mem_cons_self)))).2.2 0).trans rfl; have t1 := (zai (SQ.out.hF _ (List.mem_cons_of_mem _ (List.mem_cons_of_mem _ (List.mem_cons_self)))).2.2 1).trans rfl; have s0 := zah (SQ.out.hF _ (List.mem_cons_of_mem _ (List.mem_cons_of_mem _ (List.mem_cons_self)))).2.2 0; have s1 := zah (SQ.out.hF _ (List.mem_cons_of_mem _ (List.mem_cons_of_mem _ (List.mem_cons_self)))).2.2 1; go_wp2
                exact zdt NO.out SQ.out.hB (SQ.out.hF _ (List.mem_cons_of_mem _ (List.mem_cons_of_mem _ (List.mem_cons_self)))).2.2 _ rfl rfl
              · have hb1 := hb
                rw [decide_eq_false hbad] at hb1; clear hb
                by_cases hg : g31 = true
                · have HG : Hid (y0 = 1 ∧ y3 = y2 ∧ y6 ≤ 7 ∧ y7 = 256) := Lib.hid (by
                    have h := hg; rw [G31.out, G27.out, G24.out] at h; simp only [Bool.and_eq_true, beq_iff_eq, decide_eq_true_eq] at h
                    exact ⟨h.2.2, h.2.1, h.1.2, h.1.1⟩)
                  subst hg; clear G31 G27 G24; have cy1 : IntKind.i64.wrap y1 = y1 := IntWalk.i64_in _ (by omega); have cy4 : IntKind.i64.wrap y4 = y4 := IntWalk.i64_in _ (by omega); have cys : IntKind.i64.wrap (y1 + y4) = y1 + y4 := IntWalk.i64_in _ (by omega)
                  by_cases hgt : y1 + y4 > L.length
                  · have NO : Hid (getI L = (0, [], 3)) := Lib.hid (zgt OK.out (by rw [show n2 L 44 = gotV L 44 2 from (zbv (by have := OK.out.1; omega)).symm, NN.out]) (by omega) hlt (fun h => by have := (HOS.out.1 h).2.2.2.2.2; omega))
                    have t0 := (zai (SQ.out.hF _ (List.mem_cons_of_mem _ (List.mem_cons_of_mem _ (List.mem_cons_self)))).2.2 0).trans rfl; have t1 := (zai (SQ.out.hF _ (List.mem_cons_of_mem _ (List.mem_cons_of_mem _ (List.mem_cons_self)))).2.2 1).trans rfl; have s0 := zah (SQ.out.hF _ (List.mem_cons_of_mem _ (List.mem_cons_of_mem _ (List.mem_cons_self)))).2.2 0; have s1 := zah (SQ.out.hF _ (List.mem_cons_of_mem _ (List.mem_cons_of_mem _ (List.mem_cons_self)))).2.2 1; go_wp2
                    exact zdt NO.out SQ.out.hB (SQ.out.hF _ (List.mem_cons_of_mem _ (List.mem_cons_of_mem _ (List.mem_cons_self)))).2.2 _ rfl rfl
                  · skip
                    have c6 : IntKind.i64.wrap y6 = y6 := IntWalk.i64_in _ (by omega); have HOKS : Hid (okSeg L (52 + 32 * j)) := Lib.hid (HOS.out.2 ⟨by omega, HG.out.1, HG.out.2.1, HG.out.2.2.1, HG.out.2.2.2, by omega⟩); have HSEG : Hid (segAt L (52 + 32 * j) = ⟨y2, y5, turn y6, (L.take (y1 + y4).toNat).drop y1.toNat⟩) := Lib.hid (HSG.out (by omega))
                    have C := fun w => tinctureref7_flags.calls y6 (turn y6) w (flags_7 y6 (by omega) HG.out.2.2.1)
                    have S0 := SQ.out; rw [show 52 + 32 * j + 28 + 4 = 52 + 32 * (j + 1) from by omega] at S0; have SN := Lib.hid S0; clear S0; clear SQ HOS HSG; have SQ := SN; clear SN
                    go_upto_region 34 with fail
                    go_wp2_with fail
                    refine (C _).mono ?_
                    clear C hb1; rintro e w34 ⟨rfl, q1⟩; have SN := Lib.hid (SQ.out.below q1.below); clear q1 SQ; have SQ := SN; clear SN; have ff := zah (SQ.out.hF _ List.mem_cons_self).2.2 2; have fc := (zai (SQ.out.hF _ List.mem_cons_self).2.2 2).trans rfl
                    go_upto_region 35 with fail
                    clear ff fc
                    obtain ⟨w35, hw⟩ : ∃ w', w' = w34.setCell ⟨gs, 2, none⟩ (.int .i64 (turn y6)) := ⟨_, rfl⟩
                    have SN : Hid (RS W w35 gr L (52 + 32 * (j + 1)) [(gs, .cells #[.int .u32 y2, .int .u32 y5, .int .i64 (turn y6), .slice none 0 0] 65 (0, 0)), (gi, .cells #[.int .u32 e0, .slice A1 n1 c1] 40 (0, 0)), (W.heap.size, (.cells #[.int .u32 0, .slice none 0 0] 40 (0, 0)))] (.slice A1 n1 c1) ((segs L j).map c65)) := Lib.hid (by rw [hw]; exact SQ.out.set GSP.out 2 (.int .i64 (turn y6))); rw [← hw]; clear hw SQ; have SQ := SN; clear SN; obtain ⟨ad, rfl, _⟩ := HR.out.2.2 (by omega)
                    obtain ⟨k1, hk1⟩ : ∃ k : Nat, y1 = (k : Int) := ⟨y1.toNat, by omega⟩
                    obtain ⟨k4, hk4⟩ : ∃ k : Nat, y4 = (k : Int) := ⟨y4.toNat, by omega⟩
                    subst hk1; subst hk4
                    have e2 : k1 + k4 ≤ L.length := by omega
                    have HROW : Hid (∀ w', Below w35.heap.size w35 w' → zb1 ((Kd.int .u8).K w') 1 w' (if c = k1 then some ad else some (ad.add k1)) k4 ((L.drop k1).take k4)) :=
                      Lib.hid (fun w' hb => by have hq := zg1 (Kd.za7 HR.out (zam SQ.out.hB hb)) k1 k4 (by omega) HCc.out; rw [show k1 * (Kd.int .u8).sz = k1 from Nat.mul_one k1] at hq; exact hq)
                    have hcc := HCc.out
                    have b2 : (0 : Int) ≤ (k1 : Int) := by omega
                    have b3 : (k1 : Int) ≤ (k1 : Int) + (k4 : Int) := by omega
                    have b4 : (k1 : Int) + (k4 : Int) ≤ (c : Int) := by omega
                    have b5 : ((k1 : Int) + (k4 : Int)).toNat = k1 + k4 := by omega
                    have b6 : k1 ≤ k1 + k4 := by omega
                    have b7 : k1 + k4 ≤ c := by omega
                    have b8 : k1 ≤ c := by omega
                    go_upto_region 36 with (first | ((with_reducible refine zbx (b := .append) (xs := #[.tmp 143, .tmp 151]) rfl ?_); at_builtin; refine Kd.zb8 (Kd.int .u8) (w0 := w35) w35.heap.size rfl (.tmp 143) (.tmp 151) 28 5 (.int .u8 0) 1 rfl Try.underlying28 Img.info5 rfl (by decide) (by omega) (.slice (some ⟨w35.heap.size, 0, none⟩) 0 0) [] ((L.drop k1).take k4) _ _ _ (fun _ => True) (fun _ => False) rfl rfl ?aO ?aR (fun _ _ h => h) (fun _ h => h.elim) ?aF ?aB ?aS ?aL ?_; (case aO => exact lit5 w35); (case aR => exact HROW.out _ (zab (Below.refl _ _) _)); (case aF => exact fun _ _ => trivial); (case aB => exact zab (Below.refl _ _) _); (case aS => exact (zab (Below.refl _ _) _).size); (case aL => have := HLL.out; simp; omega); intro v3 w41 q1 q2 q3 q4; rw [List.nil_append] at q1; (obtain ⟨A3, n3, c3, rfl⟩ : ∃ A n c, v3 = .slice A n c := by obtain ⟨A, c, e, _⟩ := Kd.zdn q1; exact ⟨_, _, _, e⟩); have H3 := Lib.hid (And.intro q2 q1); have d3 : w41.cell? ⟨gs, 3, none⟩ = some (.slice none 0 0) := (zai (SQ.out.below q2 |>.hF _ List.mem_cons_self).2.2 3).trans rfl; have f3 := zah (SQ.out.below q2 |>.hF _ List.mem_cons_self).2.2 3; clear q1 q2 q3 q4))
                    obtain ⟨q2, q1⟩ := H3.out; have SB := Lib.hid (SQ.out.below q2); have SN : Hid (RS W (w41.setCell ⟨gs, 3, none⟩ (.slice A3 n3 c3)) gr L (52 + 32 * (j + 1)) [(gs, .cells #[.int .u32 y2, .int .u32 y5, .int .i64 (turn y6), .slice A3 n3 c3] 65 (0, 0)), (gi, .cells #[.int .u32 e0, .slice A1 n1 c1] 40 (0, 0)), (W.heap.size, (.cells #[.int .u32 0, .slice none 0 0] 40 (0, 0)))] (.slice A1 n1 c1) ((segs L j).map c65)) := Lib.hid (SB.out.set GSP.out 3 (.slice A3 n3 c3))
                    have V3 : Hid (Kd.R (Kd.int .u8) 5 (w41.setCell ⟨gs, 3, none⟩ (.slice A3 n3 c3)) W.heap.size (fun k => (k ≠ gr ∧ ∀ p, p ∈ ([(gi, .cells #[.int .u32 e0, .slice A1 n1 c1] 40 (0, 0)), (W.heap.size, (.cells #[.int .u32 0, .slice none 0 0] 40 (0, 0)))] : List (Nat × Obj)) → k ≠ p.1) ∧ some k ≠ (Value.slice A1 n1 c1).ownBlock ∧ k ≠ gs) (.slice A3 n3 c3) ((L.drop k1).take k4)) := Lib.hid (by
                      have q := Kd.zbi (Kd.zbz q1) SQ.out.hB.size
                      refine Kd.zbk (Kd.R_far (p := ⟨gs, 3, none⟩) q (fun k hk => ?_) _) (fun k hk => ⟨⟨(SQ.out.fresh k hk.2.1).1, fun p hp => (SQ.out.fresh k hk.2.1).2 p (List.mem_cons_of_mem _ hp)⟩, fun e => ?_, (SQ.out.fresh k hk.2.1).2 _ List.mem_cons_self⟩)
                      · exact (SQ.out.fresh k hk.2.1).2 _ List.mem_cons_self
                      · have := ((Kd.zbz SQ.out.hr).1 k e.symm).2.2.1
                        have := hk.2.1
                        omega)
                    clear q1 q2 H3 SB SQ HROW hcc b2 b3 b4 b5 b6 b7 b8 d3 f3; have SQ := SN; clear SN
                    obtain ⟨w42, hw42⟩ : ∃ w', w' = w41.setCell ⟨gs, 3, none⟩ (.slice A3 n3 c3) := ⟨_, rfl⟩
                    rw [← hw42] at SQ V3 ⊢; clear hw42; have g0 : w42.cell? ⟨gi, 1, none⟩ = some (.slice A1 n1 c1) := (zai (SQ.out.hF _ (List.mem_cons_of_mem _ List.mem_cons_self)).2.2 1).trans rfl; have g1 : w42.cell? ⟨gs, 0, none⟩ = some (.int .u32 y2) := (zai (SQ.out.hF _ List.mem_cons_self).2.2 0).trans rfl; have g2 : w42.cell? ⟨gs, 1, none⟩ = some (.int .u32 y5) := (zai (SQ.out.hF _ List.mem_cons_self).2.2 1).trans rfl; have g3 : w42.cell? ⟨gs, 2, none⟩ = some (.int .i64 (turn y6)) := (zai (SQ.out.hF _ List.mem_cons_self).2.2 2).trans rfl; have g4 : w42.cell? ⟨gs, 3, none⟩ = some (.slice A3 n3 c3) := (zai (SQ.out.hF _ List.mem_cons_self).2.2 3).trans rfl
                    go_upto_region 23 with (first | ((with_reducible refine zbx (b := .append) (xs := #[.tmp 155, .tmp 157]) rfl ?_); at_builtin; refine Kd.zfr k65 (w0 := W) W.heap.size rfl (.tmp 155) (.tmp 157) 38 65 (.agg #[(.int .u32 0), (.int .u32 0), (.int .i64 0), (.slice none 0 0)]) 40 rfl Try.underlying38 info65 rfl (by decide) (by decide) (.slice A1 n1 c1) ((segs L j).map c65) ⟨y2, y5, turn y6, (L.drop k1).take k4⟩ [.int .u32 y2, .int .u32 y5, .int .i64 (turn y6), .slice A3 n3 c3] (fun k => k ≠ gr ∧ ∀ p, p ∈ ((gs, Obj.cells #[.int .u32 y2, .int .u32 y5, .int .i64 (turn y6), .slice A3 n3 c3] 65 (0, 0)) :: [(gi, .cells #[.int .u32 e0, .slice A1 n1 c1] 40 (0, 0)), (W.heap.size, (.cells #[.int .u32 0, .slice none 0 0] 40 (0, 0)))] : List (Nat × Obj)) → k ≠ p.1) (fun k => (k ≠ gr ∧ ∀ p, p ∈ ([(gi, .cells #[.int .u32 e0, .slice A1 n1 c1] 40 (0, 0)), (W.heap.size, (.cells #[.int .u32 0, .slice none 0 0] 40 (0, 0)))] : List (Nat × Obj)) → k ≠ p.1) ∧ some k ≠ (Value.slice A1 n1 c1).ownBlock ∧ k ≠ gs) rfl rfl ?aP ?aK ?aF ?aO ?aB ?aS ?aL ?_; (case aP => exact k65_mkM _ _ _ ⟨y2, y5, turn y6, (L.drop k1).take k4⟩ V3.out); (case aK => exact fun k hk => ⟨⟨hk.1.1, fun p hp => by rcases List.mem_cons.1 hp with rfl | hp; exact hk.2.2; exact hk.1.2 p hp⟩, hk.2.1⟩); (case aF => exact SQ.out.fresh); (case aO => exact SQ.out.hr); (case aB => exact SQ.out.hB); (case aS => exact SQ.out.hB.size); (case aL => rw [List.length_map, zc3]; omega); intro v4 w44 q1 q2 q3 q4; (obtain ⟨A4, n4, c4, rfl⟩ : ∃ A n c, v4 = .slice A n c := by obtain ⟨A, c, e, _⟩ := Kd.zdn q1; exact ⟨_, _, _, e⟩); have hown := RS.own SQ.out; have bi := zb3 (SQ.out.hF _ (List.mem_cons_of_mem _ List.mem_cons_self)).2.2 q3 (hown gi (.inr ⟨_, List.mem_cons_of_mem _ List.mem_cons_self, rfl⟩)); have S5 : Hid (RS W (w44.setCell ⟨gi, 1, none⟩ (.slice A4 n4 c4)) gr L (52 + 32 * (j + 1)) [(gi, .cells #[.int .u32 e0, .slice A4 n4 c4] 40 (0, 0)), (W.heap.size, (.cells #[.int .u32 0, .slice none 0 0] 40 (0, 0)))] (.slice A4 n4 c4) ((segs L j).map c65 ++ [⟨y2, y5, turn y6, (L.drop k1).take k4⟩])) := Lib.hid (SQ.out.app q1 q2 q3 (fun p hp => by rw [List.mem_singleton.1 hp]; exact GI.out.symm)); have e0' : w44.cell? ⟨gi, 1, none⟩ = some (.slice A1 n1 c1) := (zai bi 1).trans rfl; have e1' : w44.frozen? ⟨gi, 1, none⟩ = false := zah bi 1; clear q1 q2 q3 q4 SQ V3 hown bi g0 g1 g2 g3 g4))
                    have SN : Hid (∃ A1 n1 c1, RS W (w44.setCell ⟨gi, 1, none⟩ (.slice A4 n4 c4)) gr L (52 + 32 * (j + 1)) [(gi, .cells #[.int .u32 e0, .slice A1 n1 c1] 40 (0, 0)), (W.heap.size, (.cells #[.int .u32 0, .slice none 0 0] 40 (0, 0)))] (.slice A1 n1 c1) ((segs L (j + 1)).map c65)) := Lib.hid ⟨A4, n4, c4, by
                      have hs : (segs L (j + 1)).map c65 = (segs L j).map c65 ++ [⟨y2, y5, turn y6, (L.drop k1).take k4⟩] := by
                        rw [zik, List.map_append, List.map_cons, List.map_nil, HSEG.out, show ((k1 : Int) + (k4 : Int)).toNat = k1 + k4 from by omega, show ((k1 : Int)).toNat = k1 from by omega, List.drop_take, show k1 + k4 - k1 = k4 from by omega]
                        rfl
                      rw [hs]
                      exact S5.out⟩
                    have HQN : Hid (∀ q, q < j + 1 → okSeg L (52 + 32 * q)) := Lib.hid (fun q hq => by
                      by_cases hqj : q = j
                      · subst hqj
                        exact HOKS.out
                      · exact HQ.out q (by omega))
                    clear S5 HQ HOKS HSEG e0' e1'
                    have hj1 : IntKind.u32.wrap ((j : Int) + 1) = ((j + 1 : Nat) : Int) := by rw [IntKind.wrap_u32]; omega
                    go_wp2
                    go_roundw
                    case rel => exact ⟨j + 1, by omega, by first | rfl | (rw [hj1]; done) | go_num, rfl, SN, HQN⟩
                    case measure => simp [intOf]; omega
                · have NO : Hid (getI L = (0, [], 3)) := Lib.hid (zgt OK.out (by rw [show n2 L 44 = gotV L 44 2 from (zbv (by have := OK.out.1; omega)).symm, NN.out]) (by omega) hlt (fun h => by
                    obtain ⟨_, a0, a3, a6, a7, _⟩ := HOS.out.1 h
                    exact hg (by rw [G31.out, G27.out, G24.out]; simp [a0, a3, a6, a7])))
                  obtain rfl : g31 = false := by simpa using hg
                  have t0 := (zai (SQ.out.hF _ (List.mem_cons_of_mem _ (List.mem_cons_of_mem _ (List.mem_cons_self)))).2.2 0).trans rfl; have t1 := (zai (SQ.out.hF _ (List.mem_cons_of_mem _ (List.mem_cons_of_mem _ (List.mem_cons_self)))).2.2 1).trans rfl; have s0 := zah (SQ.out.hF _ (List.mem_cons_of_mem _ (List.mem_cons_of_mem _ (List.mem_cons_self)))).2.2 0; have s1 := zah (SQ.out.hF _ (List.mem_cons_of_mem _ (List.mem_cons_of_mem _ (List.mem_cons_self)))).2.2 1; go_wp2
                  exact zdt NO.out SQ.out.hB (SQ.out.hF _ (List.mem_cons_of_mem _ (List.mem_cons_of_mem _ (List.mem_cons_self)))).2.2 _ rfl rfl
            · have hje : j = nn := by omega
              subst hje; obtain ⟨A2, c2, hv2, hl2, hC2⟩ := Kd.zdn SQ.out.hr; rw [List.length_map, zc3] at hv2 hl2; cases hv2; have t0 := (zai (SQ.out.hF _ List.mem_cons_self).2.2 0).trans rfl; have t1 := (zai (SQ.out.hF _ List.mem_cons_self).2.2 1).trans rfl; have HE : Hid (n4 L 24 = e0) := Lib.hid (by rw [← HE0.out]; exact (zbv (by have := OK.out.1; omega)).symm)
              have he1 : 0 ≤ e0 ∧ e0 < 4294967296 := by rw [← HE0.out]; exact zcd HL.out 24 4
              have HGI : Hid (getI L = done e0 (segs L j)) := Lib.hid (by rw [getI_all OK.out (by rw [show n2 L 44 = gotV L 44 2 from (zbv (by have := OK.out.1; omega)).symm, NN.out]) (by omega) HQ.out, HE.out])
              obtain ⟨rr, hrr⟩ : ∃ r, r = goodP e0 (segs L j) := ⟨_, rfl⟩
              have C := tinctureref7_GoodImage.calls 300 e0 A1 c1 ((segs L j).map c65) rr wr hC2 (by rw [List.length_map, zc3]; exact hl2) (by rw [hrr]; exact zgl he1 (by rw [zc3]; omega) (segs_wf HL.out hl j) 300 (by omega)); rw [List.length_map, zc3] at C; have HRR := Lib.hid hrr; clear hrr hC2 hl2
              go_upto_region 37 with fail
              go_wp2_with fail
              refine C.mono ?_
              clear C t0 t1; rintro e w38 ⟨rfl, q1⟩; have SN := Lib.hid (SQ.out.below q1); clear q1 SQ; have SQ := SN; clear SN
              by_cases hr0 : rr = 0
              · subst hr0
                have RI : Hid (refI L = (e0, (segs L j).map c65, 0)) := Lib.hid (by unfold refI; rw [HGI.out]; unfold done; rw [if_pos HRR.out.symm]); have t0 := (zai (SQ.out.hF _ List.mem_cons_self).2.2 0).trans rfl; have t1 := (zai (SQ.out.hF _ List.mem_cons_self).2.2 1).trans rfl; have a0 := (zai (SQ.out.hF _ (List.mem_cons_of_mem _ List.mem_cons_self)).2.2 0).trans rfl; have a1 := (zai (SQ.out.hF _ (List.mem_cons_of_mem _ List.mem_cons_self)).2.2 1).trans rfl; have s0 := zah (SQ.out.hF _ (List.mem_cons_of_mem _ List.mem_cons_self)).2.2 0; have s1 := zah (SQ.out.hF _ (List.mem_cons_of_mem _ List.mem_cons_self)).2.2 1; go_wp2
                exact fin_ok SQ.out RI.out _ rfl rfl
              · have NO : Hid (getI L = (0, [], rr)) := Lib.hid (by rw [HGI.out]; unfold done; rw [if_neg (by rw [← HRR.out]; exact hr0), ← HRR.out])
                have t0 := (zai (SQ.out.hF _ (List.mem_cons_of_mem _ (List.mem_cons_self))).2.2 0).trans rfl; have t1 := (zai (SQ.out.hF _ (List.mem_cons_of_mem _ (List.mem_cons_self))).2.2 1).trans rfl; have s0 := zah (SQ.out.hF _ (List.mem_cons_of_mem _ (List.mem_cons_self))).2.2 0; have s1 := zah (SQ.out.hF _ (List.mem_cons_of_mem _ (List.mem_cons_self))).2.2 1; go_wp2
                exact zdt NO.out SQ.out.hB (SQ.out.hF _ (List.mem_cons_of_mem _ (List.mem_cons_self))).2.2 _ rfl rfl
      · have NO : Hid (getI L = (0, [], 3)) := Lib.hid (by rw [getI, if_neg (fun h => hk (HOK.out.2 h))])
        clear HOK
        cases bd with
        | true =>
          have t0 := (zai (SQ.out.hF _ (List.mem_cons_of_mem _ List.mem_cons_self)).2.2 0).trans rfl; have t1 := (zai (SQ.out.hF _ (List.mem_cons_of_mem _ List.mem_cons_self)).2.2 1).trans rfl; have s0 := zah (SQ.out.hF _ (List.mem_cons_of_mem _ List.mem_cons_self)).2.2 0; have s1 := zah (SQ.out.hF _ (List.mem_cons_of_mem _ List.mem_cons_self)).2.2 1; go_wp2
          exact zdt NO.out SQ.out.hB (SQ.out.hF _ (List.mem_cons_of_mem _ List.mem_cons_self)).2.2 _ rfl rfl

        | false =>
          cases g14 with
          | true => exact absurd ⟨rfl, rfl⟩ hk
          | false =>
            clear hk; have t0 := (zai (SQ.out.hF _ (List.mem_cons_of_mem _ List.mem_cons_self)).2.2 0).trans rfl; have t1 := (zai (SQ.out.hF _ (List.mem_cons_of_mem _ List.mem_cons_self)).2.2 1).trans rfl; have s0 := zah (SQ.out.hF _ (List.mem_cons_of_mem _ List.mem_cons_self)).2.2 0; have s1 := zah (SQ.out.hF _ (List.mem_cons_of_mem _ List.mem_cons_self)).2.2 1; go_wp2
            exact zdt NO.out SQ.out.hB (SQ.out.hF _ (List.mem_cons_of_mem _ List.mem_cons_self)).2.2 _ rfl rfl
  · have h3' : (hd.toList == [127, 69, 76, 70, 1, 1, 1, 0, 0, 0, 0, 0, 0, 0, 0, 0]) = false := beq_eq_false_iff_ne.mpr h3
    have NO : Hid (getI L = (0, [], 3)) := Lib.hid (by rw [getI, if_neg]; intro h; exact h3 (HIH.out.2 ⟨by have := h.1; omega, h.2.1⟩)); clear HIH; go_wp2
    exact zdt NO.out SQ.out.hB (SQ.out.hF _ List.mem_cons_self).2.2 _ rfl rfl
end Go.Proofs.Ytcjaepmecihmlaa.RefImg
