/- (*Cache).Get. -/
import Derived.Test.YtnmfmcjgjjanfaaPut
namespace Go.Proofs.Ytnmfmcjgjjanfaa.Cache
open Go Go.RowKit Go.Proofs.YtnmfmcjgjjanfaaW.PrintWords Go.Proofs.YtnmfmcjgjjanfaaW.PrintLast Go.Proofs.YtnmfmcjgjjanfaaW.PrintMore Go.Proofs.Ytnmfmcjgjjanfaa.Pr Go.Proofs.Ytnmfmcjgjjanfaa.Lits
set_option linter.unusedVariables false
set_option linter.unusedSimpArgs false
/-- Ahead of the place. -/
structure Pre (F : Nat → Prop) (b : Nat) (most d : Int) (ms : List En) (k : K) (h m : Int) (W w : World) : Prop where
  hh : Holds F b most d ms h m w
  key : w.heap[W.heap.size]? = some (.cells #[.int .u32 k.1, .int .i64 k.2] 75 (0, 0))
  mod : Mod F W w
  out : ∀ x, F x → x < W.heap.size
section
variable {F : Nat → Prop} {W w w1 : World} {ms : List En} {b mb : Nat} {most d h m : Int} {ov : Value} {k : K}
theorem Pre.below (hh : Pre F b most d ms k h m W w) (hb : Below w.heap.size w w1) : Pre F b most d ms k h m W w1 := ⟨hh.hh.below hb, blk_below hh.key hb, hh.mod.trans (Mod.of_below hb), hh.out⟩
def PlaceP (F : Nat → Prop) (b : Nat) (most : Int) (ms : List En) (k : K) (h m : Int) (W w : World) (e : Ending) (w' : World) : Prop :=
  ∃ mb ov, e = .returned (.map (some mb)) ∧ PS F b mb most ov (keysOf ms) k h m W w' ∧ MapIs (fun x => F x ∨ W.heap.size < x) w' mb ms ∧ Mod (· = b) w w'
theorem place_at (hp : Pre F b most d ms k h m W w) : Calls Try.prog 26 #[.pointer (some ⟨b, 0, none⟩)] w (PlaceP F b most ms k h m W w) := by
  obtain ⟨mv, ov, h1, h2, h3⟩ := hp.hh.blk
  refine (place_any h1 h2 h3).mono ?_
  rintro e w' ⟨mb, rfl, p1, p2, p3, p4⟩
  have hsz := blk_lt hp.key
  have hbl := hp.out b hp.hh.own
  exact ⟨mb, ov, rfl, ⟨p1, p3.step (fun _ _ _ _ => rfl) (fun _ hx _ => .inl hx), (p4.keep _ hsz (by omega)).trans hp.key, hp.mod.trans (p4.mono (fun x hx => by rw [hx]; exact hp.hh.own))⟩, p2.step (fun _ _ _ _ _ => rfl) (fun _ hx _ => hx.imp_right (fun h => by omega)), p4⟩
theorem keyAll {a b : Value} {t : TypeId} {g : Nat} (hk : w.heap[g]? = some (.cells #[a, b] t (0, 0))) : w.cell? ⟨g, 0, none⟩ = some a ∧ w.cell? ⟨g, 1, none⟩ = some b := ⟨(blk_cell hk 0).trans rfl, (blk_cell hk 1).trans rfl⟩
theorem PS.set79 {ks : List K} {R i : Nat} {u : Value} {cs : Array Value} (hh : PS F b mb most ov ks k h m W w) (hR : w.heap[R]? = some (.cells cs 79 (0, 0))) (hW : W.heap.size ≤ R) : PS F b mb most ov ks k h m W (w.setCell ⟨R, i, none⟩ u) := by
  have hne : ∀ {x : Nat} {cells : Array Value} {t : TypeId}, w.heap[x]? = some (.cells cells t (0, 0)) → t ≠ 79 → x ≠ R := fun hc ht e => by
    rw [e, hR] at hc; injection hc with hc; injection hc with _ hc _; exact ht hc.symm
  exact ⟨(Below.heap_setCell _ _ _ _ (hne hh.blk (by decide))).trans hh.blk, hh.ord.step (fun x cells _ hc => Below.heap_setCell _ _ _ _ (hne hc (by decide))) (fun _ hx _ => hx), (Below.heap_setCell _ _ _ _ (hne hh.key (by decide))).trans hh.key, hh.mod.set (.inr hW) _⟩
theorem MapIs.set79 {G : Nat → Prop} {R i : Nat} {u : Value} {cs : Array Value} (hh : MapIs G w mb ms) (hR : w.heap[R]? = some (.cells cs 79 (0, 0))) : MapIs G (w.setCell ⟨R, i, none⟩ u) mb ms :=
  hh.step (fun x o _ ho hp => Below.heap_setCell _ _ _ _ (fun e => by
    have e : x = R := e
    rw [e, hR] at ho
    rcases hp with ⟨es, c, rfl⟩ | ⟨cells, rfl⟩
    · cases ho
    · injection ho with ho; injection ho with _ ho _; exact absurd ho (by decide))) (fun _ hx _ => hx)
theorem kept79 {R : Nat} {kv0 vv a0 a1 : Value} (hR : w.heap[R]? = some (.cells #[a0, a1] 79 (0, 0))) : ((w.setCell ⟨R, 0, none⟩ kv0).setCell ⟨R, 1, none⟩ vv).heap[R]? = some (.cells #[kv0, vv] 79 (0, 0)) := blk_put (blk_put hR 0 _ rfl) 1 _ rfl
theorem R25_step {base : Nat} {ok : Nat → Prop} {v : Value} {xs : List S25} (hR : Kd.R k25 25 w base ok v xs) (hm : ∀ (x : Nat) (cells : Array Value), w.heap[x]? = some (.cells cells 25 (0, 0)) → w1.heap[x]? = w.heap[x]?) : Kd.R k25 25 w1 base ok v xs :=
  Kd.R_mono (Kd.R_move (Kd.R_bound hR) (fun x hx => by
    obtain ⟨_, _, hlt, q, hq, cells, hc⟩ := hx
    have hq' : q = 25 := by rw [k25_E] at hq; simpa using hq
    subst hq'
    exact hm x cells hc)) (fun _ hx => hx.1)
theorem R25_nil {base : Nat} {ok : Nat → Prop} {A : Option Addr} {n c : Nat} {xs : List S25} (hR : Kd.R k25 25 w base ok (.slice A n c) xs) : A = none → c = 0 := by
  obtain ⟨_, inner, ⟨_, ho⟩, _⟩ := hR
  rcases ho with ⟨ho, _⟩ | ⟨g, cap, cur, ho, _⟩
  · intro _; injection ho
  · intro hA; subst hA; injection ho with ho; cases ho
theorem R25_set79 {base : Nat} {ok : Nat → Prop} {v : Value} {xs : List S25} {R i : Nat} {u : Value} {cs : Array Value} (hl : Kd.R k25 25 w base ok v xs) (hR : w.heap[R]? = some (.cells cs 79 (0, 0))) : Kd.R k25 25 (w.setCell ⟨R, i, none⟩ u) base ok v xs :=
  R25_step hl (fun x cells hc => Below.heap_setCell _ _ _ _ (fun e => by
    have e : x = R := e
    rw [e, hR] at hc; injection hc with hc; injection hc with _ hc _; exact absurd hc (by decide)))
theorem R25_setb {base : Nat} {ok : Nat → Prop} {v : Value} {xs : List S25} {i : Nat} {u mv : Value} (hl : Kd.R k25 25 w base ok v xs) (hb : w.heap[b]? = some (cb most d mv ov h m)) : Kd.R k25 25 (w.setCell ⟨b, i, none⟩ u) base ok v xs :=
  R25_step hl (fun x cells hc => Below.heap_setCell _ _ _ _ (fun e => by
    have e : x = b := e
    subst e
    exact cb_not hb hc (by decide)))
/-- What stands behind the look, a place for what was found. -/
structure GS (F : Nat → Prop) (b mb : Nat) (most : Int) (ov : Value) (ms : List En) (k : K) (h m : Int) (W : World) (R : Nat) (a0 a1 : Value) (xs : List S25) (w : World) : Prop where
  ps : PS F b mb most ov (keysOf ms) k h m W w
  mi : MapIs (fun x => F x ∨ W.heap.size < x) w mb ms
  at_ : w.heap[R]? = some (.cells #[a0, a1] 79 (0, 0))
  li : Kd.R k25 25 w 0 (fun x => F x ∨ W.heap.size < x) a1 xs
theorem GS.set {R : Nat} {a0 a1 c0 c1 : Value} {xs : List S25} (hp : PS F b mb most ov (keysOf ms) k h m W w) (hm : MapIs (fun x => F x ∨ W.heap.size < x) w mb ms) (hl : Kd.R k25 25 w 0 (fun x => F x ∨ W.heap.size < x) a1 xs) (hR : w.heap[R]? = some (.cells #[c0, c1] 79 (0, 0))) (hW : W.heap.size ≤ R) :
    GS F b mb most ov ms k h m W R a0 a1 xs ((w.setCell ⟨R, 0, none⟩ a0).setCell ⟨R, 1, none⟩ a1) :=
  have h1 := blk_put hR 0 a0 rfl
  ⟨(hp.set79 hR hW).set79 h1 hW, (hm.set79 hR).set79 h1, kept79 hR, R25_set79 (R25_set79 hl hR) h1⟩
theorem GS.new {a0 a1 : Value} {xs : List S25} (hp : PS F b mb most ov (keysOf ms) k h m W w) (hm : MapIs (fun x => F x ∨ W.heap.size < x) w mb ms) (hl : Kd.R k25 25 w 0 (fun x => F x ∨ W.heap.size < x) a1 xs) :
    GS F b mb most ov ms k h m W w.heap.size a0 a1 xs (w.alloc (.cells #[a0, a1] 79)) :=
  have hb := (Below.refl w.heap.size w).alloc (Nat.le_refl _) (.cells #[a0, a1] 79)
  ⟨hp.below hb, hm.below hb, blk_new w _, Kd.R_below hl hb⟩
theorem run_look_at {es : Array MapEntry} {clock : Nat} {G : Nat → Prop} (hen : Ents G w es ms) (hmp : w.heap[mb]? = some (.map es clock)) (k : K) (j : Nat) (e : En) (hk : idx ms k = some j) (he : ms[j]? = some e) :
    ∃ A c, Kd.R k25 25 w 0 G (.slice A e.2.2.length c) e.2.2 ∧ ∀ w', Below w.heap.size w w' → (Instr.lookup 67 (.map (some mb)) (.agg #[.int .u32 k.1, .int .i64 k.2]) true).run Try.prog w' = .ok (.tuple #[.agg #[.int .u32 e.2.1, .slice A e.2.2.length c], .bool true]) w' := by
  obtain ⟨e', v, h1, h2, _⟩ := run_look hen hmp k j hk
  obtain rfl : e = e' := by rw [he] at h1; exact Option.some.inj h1
  obtain ⟨A, c, rfl, _, _⟩ := Kd.R_reads h2
  have hl := idx_lt hk
  have hj : j < es.toList.length := by have := hen.size; simp; omega
  obtain ⟨v', g1, g2⟩ := hen.vals j es.toList[j] e (List.getElem?_eq_getElem hj) he
  obtain ⟨A', c', rfl, _, _⟩ := Kd.R_reads g2
  refine ⟨A', c', g2, fun w' hb => ?_⟩
  have hen' : Ents G w' es ms := hen.step (fun x cells _ hc => hb.block x (blk_lt hc)) (fun _ hx _ => hx)
  have hf := hen'.find k
  rw [hk] at hf
  simp only [Option.bind_some, List.getElem?_eq_getElem hj, Option.map_some] at hf
  rw [g1] at hf
  have ht := Try.underlying67
  have hc := check75 es.isEmpty k w'
  unfold kv at hf hc
  simp [Instr.lookup, run_underlying ht, MapKept.run_getObj_map (blk_below hmp hb), hc, hf, Result.andThen]
/-- One more was found, or not found. -/
theorem PS.told2 {ks : List K} (hh : PS F b mb most ov ks k h m W w) (hM : MapIs (fun x => F x ∨ W.heap.size < x) w mb ms) (hk : ks = keysOf ms) (hown : F b) (hone : One ms) {i : Nat} {u : Value} {h' m' : Int} (hu : (w.setCell ⟨b, i, none⟩ u).heap[b]? = some (cb most 1 (.map (some mb)) ov h' m')) (hnF : b ≠ W.heap.size) :
    Holds (fun x => F x ∨ W.heap.size < x) b most 1 ms h' m' (w.setCell ⟨b, i, none⟩ u) ∧ Mod F W (w.setCell ⟨b, i, none⟩ u) ∧ (w.setCell ⟨b, i, none⟩ u).heap[W.heap.size]? = some (.cells #[.int .u32 k.1, .int .i64 k.2] 75 (0, 0)) := by
  subst hk
  refine ⟨⟨.inl hown, ⟨_, _, hu, .inr ⟨mb, rfl, rfl, hM.step (fun x o _ ho hp => Below.heap_setCell _ _ _ _ (fun e => ?_)) (fun _ hx _ => hx)⟩, hh.ord.step (fun x cells _ hc => Below.heap_setCell _ _ _ _ (fun e => ?_)) (fun _ hx _ => hx)⟩, hone⟩, hh.mod.set (.inl hown) _, (Below.heap_setCell _ _ _ _ (Ne.symm hnF)).trans hh.key⟩
  · have e : x = b := e
    subst e
    rcases hp with ⟨es, c, rfl⟩ | ⟨cells, rfl⟩
    · exact cb_map hh.blk ho
    · exact cb_not hh.blk ho (by decide)
  · have e : x = b := e
    subst e
    exact cb_not hh.blk hc (by decide)
end
section
variable {F : Nat → Prop} {w : World} {ms : List En} {b : Nat} {most d h m : Int}
-- walks
set_option maxRecDepth 100000 in
set_option maxHeartbeats 2000000 in
theorem get_no (k : K) (gen : Int) (hk : idx ms k = none) (hh : Holds F b most d ms h m w) (hn : ms.length ≤ 1000) (hF : ∀ x, F x → x < w.heap.size) (hh0 : 0 ≤ h) (hh1 : h ≤ 1000000) (hm0 : 0 ≤ m) (hm1 : m ≤ 1000000) :
    Calls Try.prog 11 #[.pointer (some ⟨b, 0, none⟩), .int .u32 k.1, .int .i64 k.2, .int .u32 gen] w fun e w' => e = .returned (.tuple #[.slice none 0 0, .bool false]) ∧ Holds (fun x => F x ∨ w.heap.size ≤ x) b most 1 ms h (m + 1) w' ∧ Mod F w w' := by
  have P0 : Pre F b most d ms k h m w (w.alloc (.cells #[.int .u32 k.1, .int .i64 k.2] 75)) := ⟨hh.below ((Below.refl _ _).alloc (Nat.le_refl _) _), blk_new w _, Mod.of_below ((Below.refl _ _).alloc (Nat.le_refl _) _), hF⟩
  have HP0 := Lib.hid P0
  have HF := Lib.hid hF
  have HONE := Lib.hid hh.one
  have HOWN := Lib.hid hh.own
  have HNB := Lib.hid hn
  have HK := Lib.hid hk
  clear hk
  clear P0 hF hh hn
  go_enter Try.func11, Try.ntmps11
  go_wp2
  obtain ⟨w2, hw2⟩ : ∃ w2, w2 = w.alloc (.cells #[.int .u32 k.1, .int .i64 k.2] 75) := ⟨_, rfl⟩
  rw [← hw2] at HP0 ⊢
  have HS2 : w.heap.size < w2.heap.size := by rw [hw2]; simp
  clear hw2
  have HQ := Aside0.mk ((HP0.out.below (below_drew (Below.refl _ _))).key)
  go_region_held3 (fun w' => w'.cell? ⟨w.heap.size, 0, none⟩ = some (.int .u32 k.1) ∧ w'.cell? ⟨w.heap.size, 1, none⟩ = some (.int .i64 k.2))
    (first | (with_reducible refine keyAll (blk_far (blk_far (blk_alloc HQ.out _) ?_ _) ?_ _) <;> (show w.heap.size ≠ _; simp; omega)) | (with_reducible refine keyAll (blk_far (blk_far HQ.out ?_ _) ?_ _) <;> (show w.heap.size ≠ _; simp; omega)) | exact keyAll HQ.out | exact keyAll (blk_alloc HQ.out _))
    (first
      | (go_at_call 26; refine (place_at (HP0.out.below (below_drew (Below.refl _ _)))).mono ?_; rintro e w4 ⟨mb, ov, rfl, hp, hM, hmd⟩; obtain ⟨hmb, es, clock, hmp, hen, _⟩ := id hM; have hlk : ∀ w', Below w4.heap.size w4 w' → (Instr.lookup 67 (.map (some mb)) (.agg #[.int .u32 k.1, .int .i64 k.2]) true).run Try.prog w' = .ok (.tuple #[.agg #[.int .u32 0, .slice none 0 0], .bool false]) w' := fun w' hb => run_look_no (hen.step (fun x cells _ hc => hb.block x (blk_lt hc)) (fun _ hx _ => hx)) (blk_below hmp hb) k HK.out; have hl2 := hlk _ ((Below.refl w4.heap.size w4).alloc (Nat.le_refl _) (.cells #[.int .u32 0, .slice none 0 0] 79)); have hl1 := hlk _ (Below.refl _ _); have HN := Aside0.mk hp; have HM := Aside0.mk hM; have hs4 : w.heap.size < w4.heap.size := blk_lt hp.key; clear HQ; have HQ := Aside0.mk hp.key; clear hp hM hmd hen hmp hmb hlk)
      | (go_at_call 26; refine (place_at (HP0.out.below (below_alloc (below_drew (Below.refl _ _)) (.cells #[.int .u32 0, .slice none 0 0] 79)))).mono ?_; rintro e w4 ⟨mb, ov, rfl, hp, hM, hmd⟩; obtain ⟨hmb, es, clock, hmp, hen, _⟩ := id hM; have hlk : ∀ w', Below w4.heap.size w4 w' → (Instr.lookup 67 (.map (some mb)) (.agg #[.int .u32 k.1, .int .i64 k.2]) true).run Try.prog w' = .ok (.tuple #[.agg #[.int .u32 0, .slice none 0 0], .bool false]) w' := fun w' hb => run_look_no (hen.step (fun x cells _ hc => hb.block x (blk_lt hc)) (fun _ hx _ => hx)) (blk_below hmp hb) k HK.out; have hl1 := hlk _ (Below.refl _ _); have HN := Aside0.mk hp; have HM := Aside0.mk hM; have hs4 : w.heap.size < w4.heap.size := blk_lt hp.key; clear HQ; have HQ := Aside0.mk hp.key; have HR := Aside0.mk ((hmd.keep _ (by simp) (fun e => by have := HF.out b (HP0.out.hh.own); have e : w2.heap.size = b := e; omega)).trans (blk_new w2.drew (.cells #[.int .u32 0, .slice none 0 0] 79))); have r0 : w4.cell? ⟨w2.heap.size, 0, none⟩ = some (.int .u32 0) := (blk_cell HR.out 0).trans rfl; have r1 : w4.cell? ⟨w2.heap.size, 1, none⟩ = some (.slice none 0 0) := (blk_cell HR.out 1).trans rfl; have z0 : w4.frozen? ⟨w2.heap.size, 0, none⟩ = false := blk_frozen HR.out 0; have z1 : w4.frozen? ⟨w2.heap.size, 1, none⟩ = false := blk_frozen HR.out 1; clear hp hM hmd hen hmp hmb hlk))
  rotate_left 2
  · skip
    have GS5 := Lib.hid (GS.set (R := w2.heap.size) (a0 := Value.int .u32 0) (a1 := Value.slice none 0 0) (xs := []) HN.out HM.out (Kd.R_nil _ _ _ _ _) HR.out (Nat.le_of_lt HS2))
    obtain ⟨w5, hw5⟩ : ∃ w5, w5 = ((w4.setCell ⟨w2.heap.size, 0, none⟩ (Value.int .u32 0)).setCell ⟨w2.heap.size, 1, none⟩ (Value.slice none 0 0)) := ⟨_, rfl⟩
    obtain ⟨R, hR⟩ : ∃ R, R = w2.heap.size := ⟨_, rfl⟩
    rw [← hR] at GS5 ⊢
    try rw [← hR] at hw5
    rw [← hw5] at GS5 ⊢
    clear hw5 hR r0 r1 z0 z1 HR hl1 HN HM HQ
    have t0 : w5.cell? ⟨R, 0, none⟩ = some (Value.int .u32 0) := (blk_cell GS5.out.at_ 0).trans rfl
    have t1 : w5.cell? ⟨R, 1, none⟩ = some (Value.slice none 0 0) := (blk_cell GS5.out.at_ 1).trans rfl
    have f7 : w5.frozen? ⟨b, 7, none⟩ = false := blk_frozen GS5.out.ps.blk 7
    have c7 : w5.cell? ⟨b, 7, none⟩ = some (.int .i64 m) := (blk_cell GS5.out.ps.blk 7).trans rfl
    go_wp2_with (go_at_call 27; refine (add_one ⟨b, 7, none⟩ m _ c7 f7 hm0 hm1).mono ?_; rintro e w6 ⟨rfl, rfl⟩)
    refine bodyPost_ret (results_tmp2 rfl _ _ _) rfl ?_
    have hbw := HF.out b HOWN.out
    obtain ⟨p1, p2, p3⟩ := GS5.out.ps.told2 (h' := h) (m' := m + 1) GS5.out.mi rfl HOWN.out HONE.out (blk_put GS5.out.ps.blk 7 _ rfl) (by omega)
    exact ⟨rfl, p1.mono (fun x hx _ => hx.imp id Nat.le_of_lt), p2⟩
  all_goals
    have GS5 := Lib.hid (GS.new (a0 := Value.int .u32 0) (a1 := Value.slice none 0 0) (xs := []) HN.out HM.out (Kd.R_nil _ _ _ _ _))
    obtain ⟨w5, hw5⟩ : ∃ w5, w5 = w4.alloc (.cells #[Value.int .u32 0, Value.slice none 0 0] 79) := ⟨_, rfl⟩
    obtain ⟨R, hR⟩ : ∃ R, R = w4.heap.size := ⟨_, rfl⟩
    rw [← hR] at GS5 ⊢
    try rw [← hR] at hw5
    rw [← hw5] at GS5 ⊢
    clear hw5 hR hl1 hl2 HN HM HQ
    have t0 : w5.cell? ⟨R, 0, none⟩ = some (Value.int .u32 0) := (blk_cell GS5.out.at_ 0).trans rfl
    have t1 : w5.cell? ⟨R, 1, none⟩ = some (Value.slice none 0 0) := (blk_cell GS5.out.at_ 1).trans rfl
    have f7 : w5.frozen? ⟨b, 7, none⟩ = false := blk_frozen GS5.out.ps.blk 7
    have c7 : w5.cell? ⟨b, 7, none⟩ = some (.int .i64 m) := (blk_cell GS5.out.ps.blk 7).trans rfl
    go_wp2_with (go_at_call 27; refine (add_one ⟨b, 7, none⟩ m _ c7 f7 hm0 hm1).mono ?_; rintro e w6 ⟨rfl, rfl⟩)
    refine bodyPost_ret (results_tmp2 rfl _ _ _) rfl ?_
    have hbw := HF.out b HOWN.out
    obtain ⟨p1, p2, p3⟩ := GS5.out.ps.told2 (h' := h) (m' := m + 1) GS5.out.mi rfl HOWN.out HONE.out (blk_put GS5.out.ps.blk 7 _ rfl) (by omega)
    exact ⟨rfl, p1.mono (fun x hx _ => hx.imp id Nat.le_of_lt), p2⟩
set_option maxRecDepth 100000 in
set_option maxHeartbeats 2000000 in
theorem get_miss (k : K) (gen : Int) (j : Nat) (kk : K) (QQ : Int) (xs : List S25) (hk : idx ms k = some j) (hen : ms[j]? = some (kk, QQ, xs)) (hg : ¬ QQ = gen) (hh : Holds F b most d ms h m w) (hn : ms.length ≤ 1000) (hF : ∀ x, F x → x < w.heap.size) (hh0 : 0 ≤ h) (hh1 : h ≤ 1000000) (hm0 : 0 ≤ m) (hm1 : m ≤ 1000000) :
    Calls Try.prog 11 #[.pointer (some ⟨b, 0, none⟩), .int .u32 k.1, .int .i64 k.2, .int .u32 gen] w fun e w' => e = .returned (.tuple #[.slice none 0 0, .bool false]) ∧ Holds (fun x => F x ∨ w.heap.size ≤ x) b most 1 (del ms k) h (m + 1) w' ∧ Mod F w w' := by
  have P0 : Pre F b most d ms k h m w (w.alloc (.cells #[.int .u32 k.1, .int .i64 k.2] 75)) := ⟨hh.below ((Below.refl _ _).alloc (Nat.le_refl _) _), blk_new w _, Mod.of_below ((Below.refl _ _).alloc (Nat.le_refl _) _), hF⟩
  have HP0 := Lib.hid P0
  have HF := Lib.hid hF
  have HONE := Lib.hid hh.one
  have HOWN := Lib.hid hh.own
  have HNB := Lib.hid hn
  have HK := Lib.hid hk
  have HEN := Lib.hid hen
  have hqf : (QQ == gen) = false := beq_eq_false_iff_ne.2 hg
  have hqd : decide (QQ = gen) = false := decide_eq_false hg
  clear hk hen
  clear P0 hF hh hn
  go_enter Try.func11, Try.ntmps11
  go_wp2
  obtain ⟨w2, hw2⟩ : ∃ w2, w2 = w.alloc (.cells #[.int .u32 k.1, .int .i64 k.2] 75) := ⟨_, rfl⟩
  rw [← hw2] at HP0 ⊢
  have HS2 : w.heap.size < w2.heap.size := by rw [hw2]; simp
  clear hw2
  have HQ := Aside0.mk ((HP0.out.below (below_drew (Below.refl _ _))).key)
  go_region_held3 (fun w' => w'.cell? ⟨w.heap.size, 0, none⟩ = some (.int .u32 k.1) ∧ w'.cell? ⟨w.heap.size, 1, none⟩ = some (.int .i64 k.2))
    (first | (with_reducible refine keyAll (blk_far (blk_far (blk_alloc HQ.out _) ?_ _) ?_ _) <;> (show w.heap.size ≠ _; simp; omega)) | (with_reducible refine keyAll (blk_far (blk_far HQ.out ?_ _) ?_ _) <;> (show w.heap.size ≠ _; simp; omega)) | exact keyAll HQ.out | exact keyAll (blk_alloc HQ.out _))
    (first
      | (go_at_call 26; refine (place_at (HP0.out.below (below_drew (Below.refl _ _)))).mono ?_; rintro e w4 ⟨mb, ov, rfl, hp, hM, hmd⟩; obtain ⟨hmb, es, clock, hmp, hen, _⟩ := id hM; obtain ⟨A9, c9, hl9, hlk⟩ := run_look_at hen hmp k j (kk, QQ, xs) HK.out HEN.out; simp only [] at hl9 hlk; have HL9 := Aside0.mk hl9; clear hl9; have hl2 := hlk _ ((Below.refl w4.heap.size w4).alloc (Nat.le_refl _) (.cells #[.int .u32 0, .slice none 0 0] 79)); have hl1 := hlk _ (Below.refl _ _); have HN := Aside0.mk hp; have HM := Aside0.mk hM; have hs4 : w.heap.size < w4.heap.size := blk_lt hp.key; clear HQ; have HQ := Aside0.mk hp.key; clear hp hM hmd hen hmp hmb hlk)
      | (go_at_call 26; refine (place_at (HP0.out.below (below_alloc (below_drew (Below.refl _ _)) (.cells #[.int .u32 0, .slice none 0 0] 79)))).mono ?_; rintro e w4 ⟨mb, ov, rfl, hp, hM, hmd⟩; obtain ⟨hmb, es, clock, hmp, hen, _⟩ := id hM; obtain ⟨A9, c9, hl9, hlk⟩ := run_look_at hen hmp k j (kk, QQ, xs) HK.out HEN.out; simp only [] at hl9 hlk; have HL9 := Aside0.mk hl9; clear hl9; have hl1 := hlk _ (Below.refl _ _); have HN := Aside0.mk hp; have HM := Aside0.mk hM; have hs4 : w.heap.size < w4.heap.size := blk_lt hp.key; clear HQ; have HQ := Aside0.mk hp.key; have HR := Aside0.mk ((hmd.keep _ (by simp) (fun e => by have := HF.out b (HP0.out.hh.own); have e : w2.heap.size = b := e; omega)).trans (blk_new w2.drew (.cells #[.int .u32 0, .slice none 0 0] 79))); have r0 : w4.cell? ⟨w2.heap.size, 0, none⟩ = some (.int .u32 0) := (blk_cell HR.out 0).trans rfl; have r1 : w4.cell? ⟨w2.heap.size, 1, none⟩ = some (.slice none 0 0) := (blk_cell HR.out 1).trans rfl; have z0 : w4.frozen? ⟨w2.heap.size, 0, none⟩ = false := blk_frozen HR.out 0; have z1 : w4.frozen? ⟨w2.heap.size, 1, none⟩ = false := blk_frozen HR.out 1; clear hp hM hmd hen hmp hmb hlk))
  rotate_left 2
  · skip
    have GS5 := Lib.hid (GS.set (R := w2.heap.size) (a0 := Value.int .u32 QQ) (a1 := Value.slice A9 xs.length c9) (xs := xs) HN.out HM.out HL9.out HR.out (Nat.le_of_lt HS2))
    obtain ⟨w5, hw5⟩ : ∃ w5, w5 = ((w4.setCell ⟨w2.heap.size, 0, none⟩ (Value.int .u32 QQ)).setCell ⟨w2.heap.size, 1, none⟩ (Value.slice A9 xs.length c9)) := ⟨_, rfl⟩
    obtain ⟨R, hR⟩ : ∃ R, R = w2.heap.size := ⟨_, rfl⟩
    rw [← hR] at GS5 ⊢
    try rw [← hR] at hw5
    rw [← hw5] at GS5 ⊢
    clear hw5 hR r0 r1 z0 z1 HR hl1 HN HM HQ
    have t0 : w5.cell? ⟨R, 0, none⟩ = some (Value.int .u32 QQ) := (blk_cell GS5.out.at_ 0).trans rfl
    have t1 : w5.cell? ⟨R, 1, none⟩ = some (Value.slice A9 xs.length c9) := (blk_cell GS5.out.at_ 1).trans rfl
    have f7 : w5.frozen? ⟨b, 7, none⟩ = false := blk_frozen GS5.out.ps.blk 7
    have c7 : w5.cell? ⟨b, 7, none⟩ = some (.int .i64 m) := (blk_cell GS5.out.ps.blk 7).trans rfl
    clear HL9
    have hbw := HF.out b HOWN.out
    have TOLD := GS5.out.ps.told2 (h' := h) (m' := m + 1) GS5.out.mi rfl HOWN.out HONE.out (blk_put GS5.out.ps.blk 7 _ rfl) (by omega)
    obtain ⟨w6, hw6⟩ : ∃ w6, w6 = w5.setCell ⟨b, 7, none⟩ (.int .i64 (m + 1)) := ⟨_, rfl⟩
    rw [← hw6] at TOLD
    have RM := remove_any k (TOLD.1.mono (F' := fun x => (F x ∨ w.heap.size < x) ∧ x < w6.heap.size) (fun x hx hl => ⟨hx, hl⟩)) (by have := HNB.out; omega) (fun x hx => hx.2)
    unfold kv at RM
    have HT := Lib.hid TOLD
    have k0 : w6.cell? ⟨w.heap.size, 0, none⟩ = some (.int .u32 k.1) := (blk_cell TOLD.2.2 0).trans rfl
    have k1 : w6.cell? ⟨w.heap.size, 1, none⟩ = some (.int .i64 k.2) := (blk_cell TOLD.2.2 1).trans rfl
    clear TOLD
    have HW6 := Lib.hid hw6
    clear hw6
    go_wp2_with (first | (go_at_call 27; refine (add_one ⟨b, 7, none⟩ m _ c7 f7 hm0 hm1).mono ?_; rintro e w6' ⟨rfl, hw6'⟩; rw [← HW6.out] at hw6'; rw [hw6']; clear hw6' w6' t0 t1 f7 c7) | (go_at_call 24; refine RM.mono ?_; rintro e w7 ⟨rfl, h2, h3⟩; have H2 := Lib.hid h2; have H3 := Lib.hid h3; clear h2 h3 RM k0 k1))
    refine bodyPost_ret (results_tmp2 rfl _ _ _) rfl ?_
    have hsz := HT.out.2.1.size
    exact ⟨rfl, H2.out.mono (fun x hx _ => by rcases hx with ⟨h | h, _⟩ | h; exact .inl h; exact .inr (by omega); exact .inr (by omega)), HT.out.2.1.trans' H3.out (fun x hx => hx.1.imp id Nat.le_of_lt)⟩
  all_goals
    have GS5 := Lib.hid (GS.new (a0 := Value.int .u32 QQ) (a1 := Value.slice A9 xs.length c9) (xs := xs) HN.out HM.out HL9.out)
    obtain ⟨w5, hw5⟩ : ∃ w5, w5 = w4.alloc (.cells #[Value.int .u32 QQ, Value.slice A9 xs.length c9] 79) := ⟨_, rfl⟩
    obtain ⟨R, hR⟩ : ∃ R, R = w4.heap.size := ⟨_, rfl⟩
    rw [← hR] at GS5 ⊢
    try rw [← hR] at hw5
    rw [← hw5] at GS5 ⊢
    clear hw5 hR hl1 hl2 HN HM HQ
    have t0 : w5.cell? ⟨R, 0, none⟩ = some (Value.int .u32 QQ) := (blk_cell GS5.out.at_ 0).trans rfl
    have t1 : w5.cell? ⟨R, 1, none⟩ = some (Value.slice A9 xs.length c9) := (blk_cell GS5.out.at_ 1).trans rfl
    have f7 : w5.frozen? ⟨b, 7, none⟩ = false := blk_frozen GS5.out.ps.blk 7
    have c7 : w5.cell? ⟨b, 7, none⟩ = some (.int .i64 m) := (blk_cell GS5.out.ps.blk 7).trans rfl
    clear HL9
    have hbw := HF.out b HOWN.out
    have TOLD := GS5.out.ps.told2 (h' := h) (m' := m + 1) GS5.out.mi rfl HOWN.out HONE.out (blk_put GS5.out.ps.blk 7 _ rfl) (by omega)
    obtain ⟨w6, hw6⟩ : ∃ w6, w6 = w5.setCell ⟨b, 7, none⟩ (.int .i64 (m + 1)) := ⟨_, rfl⟩
    rw [← hw6] at TOLD
    have RM := remove_any k (TOLD.1.mono (F' := fun x => (F x ∨ w.heap.size < x) ∧ x < w6.heap.size) (fun x hx hl => ⟨hx, hl⟩)) (by have := HNB.out; omega) (fun x hx => hx.2)
    unfold kv at RM
    have HT := Lib.hid TOLD
    have k0 : w6.cell? ⟨w.heap.size, 0, none⟩ = some (.int .u32 k.1) := (blk_cell TOLD.2.2 0).trans rfl
    have k1 : w6.cell? ⟨w.heap.size, 1, none⟩ = some (.int .i64 k.2) := (blk_cell TOLD.2.2 1).trans rfl
    clear TOLD
    have HW6 := Lib.hid hw6
    clear hw6
    go_wp2_with (first | (go_at_call 27; refine (add_one ⟨b, 7, none⟩ m _ c7 f7 hm0 hm1).mono ?_; rintro e w6' ⟨rfl, hw6'⟩; rw [← HW6.out] at hw6'; rw [hw6']; clear hw6' w6' t0 t1 f7 c7) | (go_at_call 24; refine RM.mono ?_; rintro e w7 ⟨rfl, h2, h3⟩; have H2 := Lib.hid h2; have H3 := Lib.hid h3; clear h2 h3 RM k0 k1))
    refine bodyPost_ret (results_tmp2 rfl _ _ _) rfl ?_
    have hsz := HT.out.2.1.size
    exact ⟨rfl, H2.out.mono (fun x hx _ => by rcases hx with ⟨h | h, _⟩ | h; exact .inl h; exact .inr (by omega); exact .inr (by omega)), HT.out.2.1.trans' H3.out (fun x hx => hx.1.imp id Nat.le_of_lt)⟩
set_option maxRecDepth 100000 in
set_option maxHeartbeats 2000000 in
theorem get_hit (k : K) (gen : Int) (j : Nat) (kk : K) (xs : List S25) (hk : idx ms k = some j) (hen : ms[j]? = some (kk, gen, xs)) (hx : xs.length ≤ 1000000) (hh : Holds F b most d ms h m w) (hn : ms.length ≤ 1000) (hF : ∀ x, F x → x < w.heap.size) (hh0 : 0 ≤ h) (hh1 : h ≤ 1000000) (hm0 : 0 ≤ m) (hm1 : m ≤ 1000000) :
    Calls Try.prog 11 #[.pointer (some ⟨b, 0, none⟩), .int .u32 k.1, .int .i64 k.2, .int .u32 gen] w fun e w' => ∃ v s, e = .returned (.tuple #[v, .bool true]) ∧ w.heap.size ≤ s ∧ s ≤ w'.heap.size ∧ Kd.R k25 25 w' s (fun _ => True) v xs ∧ Holds (fun x => (F x ∨ w.heap.size ≤ x) ∧ x < s) b most 1 ms (h + 1) m w' ∧ Mod F w w' := by
  have P0 : Pre F b most d ms k h m w (w.alloc (.cells #[.int .u32 k.1, .int .i64 k.2] 75)) := ⟨hh.below ((Below.refl _ _).alloc (Nat.le_refl _) _), blk_new w _, Mod.of_below ((Below.refl _ _).alloc (Nat.le_refl _) _), hF⟩
  have HP0 := Lib.hid P0
  have HF := Lib.hid hF
  have HONE := Lib.hid hh.one
  have HOWN := Lib.hid hh.own
  have HNB := Lib.hid hn
  have HK := Lib.hid hk
  have HEN := Lib.hid hen
  clear hk hen
  clear P0 hF hh hn
  go_enter Try.func11, Try.ntmps11
  go_wp2
  obtain ⟨w2, hw2⟩ : ∃ w2, w2 = w.alloc (.cells #[.int .u32 k.1, .int .i64 k.2] 75) := ⟨_, rfl⟩
  rw [← hw2] at HP0 ⊢
  have HS2 : w.heap.size < w2.heap.size := by rw [hw2]; simp
  clear hw2
  have HQ := Aside0.mk ((HP0.out.below (below_drew (Below.refl _ _))).key)
  go_region_held3 (fun w' => w'.cell? ⟨w.heap.size, 0, none⟩ = some (.int .u32 k.1) ∧ w'.cell? ⟨w.heap.size, 1, none⟩ = some (.int .i64 k.2))
    (first | (with_reducible refine keyAll (blk_far (blk_far (blk_alloc HQ.out _) ?_ _) ?_ _) <;> (show w.heap.size ≠ _; simp; omega)) | (with_reducible refine keyAll (blk_far (blk_far HQ.out ?_ _) ?_ _) <;> (show w.heap.size ≠ _; simp; omega)) | exact keyAll HQ.out | exact keyAll (blk_alloc HQ.out _))
    (first
      | (go_at_call 26; refine (place_at (HP0.out.below (below_drew (Below.refl _ _)))).mono ?_; rintro e w4 ⟨mb, ov, rfl, hp, hM, hmd⟩; obtain ⟨hmb, es, clock, hmp, hen, _⟩ := id hM; obtain ⟨A9, c9, hl9, hlk⟩ := run_look_at hen hmp k j (kk, gen, xs) HK.out HEN.out; simp only [] at hl9 hlk; have HL9 := Aside0.mk hl9; clear hl9; have hl2 := hlk _ ((Below.refl w4.heap.size w4).alloc (Nat.le_refl _) (.cells #[.int .u32 0, .slice none 0 0] 79)); have hl1 := hlk _ (Below.refl _ _); have HN := Aside0.mk hp; have HM := Aside0.mk hM; have hs4 : w.heap.size < w4.heap.size := blk_lt hp.key; clear HQ; have HQ := Aside0.mk hp.key; clear hp hM hmd hen hmp hmb hlk)
      | (go_at_call 26; refine (place_at (HP0.out.below (below_alloc (below_drew (Below.refl _ _)) (.cells #[.int .u32 0, .slice none 0 0] 79)))).mono ?_; rintro e w4 ⟨mb, ov, rfl, hp, hM, hmd⟩; obtain ⟨hmb, es, clock, hmp, hen, _⟩ := id hM; obtain ⟨A9, c9, hl9, hlk⟩ := run_look_at hen hmp k j (kk, gen, xs) HK.out HEN.out; simp only [] at hl9 hlk; have HL9 := Aside0.mk hl9; clear hl9; have hl1 := hlk _ (Below.refl _ _); have HN := Aside0.mk hp; have HM := Aside0.mk hM; have hs4 : w.heap.size < w4.heap.size := blk_lt hp.key; clear HQ; have HQ := Aside0.mk hp.key; have HR := Aside0.mk ((hmd.keep _ (by simp) (fun e => by have := HF.out b (HP0.out.hh.own); have e : w2.heap.size = b := e; omega)).trans (blk_new w2.drew (.cells #[.int .u32 0, .slice none 0 0] 79))); have r0 : w4.cell? ⟨w2.heap.size, 0, none⟩ = some (.int .u32 0) := (blk_cell HR.out 0).trans rfl; have r1 : w4.cell? ⟨w2.heap.size, 1, none⟩ = some (.slice none 0 0) := (blk_cell HR.out 1).trans rfl; have z0 : w4.frozen? ⟨w2.heap.size, 0, none⟩ = false := blk_frozen HR.out 0; have z1 : w4.frozen? ⟨w2.heap.size, 1, none⟩ = false := blk_frozen HR.out 1; clear hp hM hmd hen hmp hmb hlk))
  rotate_left 2
  · skip
    have GS5 := Lib.hid (GS.set (R := w2.heap.size) (a0 := Value.int .u32 gen) (a1 := Value.slice A9 xs.length c9) (xs := xs) HN.out HM.out HL9.out HR.out (Nat.le_of_lt HS2))
    obtain ⟨w5, hw5⟩ : ∃ w5, w5 = ((w4.setCell ⟨w2.heap.size, 0, none⟩ (Value.int .u32 gen)).setCell ⟨w2.heap.size, 1, none⟩ (Value.slice A9 xs.length c9)) := ⟨_, rfl⟩
    obtain ⟨R, hR⟩ : ∃ R, R = w2.heap.size := ⟨_, rfl⟩
    rw [← hR] at GS5 ⊢
    try rw [← hR] at hw5
    rw [← hw5] at GS5 ⊢
    clear hw5 hR r0 r1 z0 z1 HR hl1 HN HM HQ
    have t0 : w5.cell? ⟨R, 0, none⟩ = some (Value.int .u32 gen) := (blk_cell GS5.out.at_ 0).trans rfl
    have t1 : w5.cell? ⟨R, 1, none⟩ = some (Value.slice A9 xs.length c9) := (blk_cell GS5.out.at_ 1).trans rfl
    have f6 : w5.frozen? ⟨b, 6, none⟩ = false := blk_frozen GS5.out.ps.blk 6
    have c6 : w5.cell? ⟨b, 6, none⟩ = some (.int .i64 h) := (blk_cell GS5.out.ps.blk 6).trans rfl
    clear HL9
    have hbw := HF.out b HOWN.out
    have TOLD := GS5.out.ps.told2 (h' := h + 1) (m' := m) GS5.out.mi rfl HOWN.out HONE.out (blk_put GS5.out.ps.blk 6 _ rfl) (by omega)
    have hli := R25_setb (u := .int .i64 (h + 1)) (i := 6) GS5.out.li GS5.out.ps.blk
    have hR6 : (w5.setCell ⟨b, 6, none⟩ (.int .i64 (h + 1))).heap[R]? = some (.cells #[Value.int .u32 gen, Value.slice A9 xs.length c9] 79 (0, 0)) := (Below.heap_setCell _ _ _ _ (fun e => by have e : R = b := e; have h1 := GS5.out.at_; rw [e] at h1; exact cb_not GS5.out.ps.blk h1 (by decide))).trans GS5.out.at_
    obtain ⟨w6, hw6⟩ : ∃ w6, w6 = w5.setCell ⟨b, 6, none⟩ (.int .i64 (h + 1)) := ⟨_, rfl⟩
    rw [← hw6] at TOLD hli hR6
    obtain ⟨_, hle, hC⟩ := Kd.R_reads' hli
    have CL := clone_any A9 c9 xs w6 hC hle hx
    have HT := Lib.hid TOLD
    have s1 : w6.cell? ⟨R, 1, none⟩ = some (Value.slice A9 xs.length c9) := (blk_cell hR6 1).trans rfl
    clear TOLD hli hR6 hC
    have HW6 := Lib.hid hw6
    clear hw6
    go_wp2_with (first | (go_at_call 27; refine (add_one ⟨b, 6, none⟩ h _ c6 f6 hh0 hh1).mono ?_; rintro e w6' ⟨rfl, hw6'⟩; rw [← HW6.out] at hw6'; rw [hw6']; clear hw6' w6' t0 t1 f6 c6) | (go_at_call 25; refine CL.mono ?_; rintro e w7 ⟨v, rfl, hv, hb⟩; obtain ⟨A10, c10, rfl, _⟩ := Kd.R_reads hv; have HV := Lib.hid hv; have HB := Lib.hid hb; clear hv hb CL s1))
    refine bodyPost_ret (results_tmp2 rfl _ _ _) rfl ?_
    have hsz := HT.out.2.1.size
    exact ⟨_, w6.heap.size, rfl, hsz, HB.out.size, HV.out, (HT.out.1.mono (F' := fun x => (F x ∨ w.heap.size ≤ x) ∧ x < w6.heap.size) (fun x hx hl => ⟨hx.imp id Nat.le_of_lt, hl⟩)).below HB.out, HT.out.2.1.trans (Mod.of_below HB.out)⟩
  all_goals
    have GS5 := Lib.hid (GS.new (a0 := Value.int .u32 gen) (a1 := Value.slice A9 xs.length c9) (xs := xs) HN.out HM.out HL9.out)
    obtain ⟨w5, hw5⟩ : ∃ w5, w5 = w4.alloc (.cells #[Value.int .u32 gen, Value.slice A9 xs.length c9] 79) := ⟨_, rfl⟩
    obtain ⟨R, hR⟩ : ∃ R, R = w4.heap.size := ⟨_, rfl⟩
    rw [← hR] at GS5 ⊢
    try rw [← hR] at hw5
    rw [← hw5] at GS5 ⊢
    clear hw5 hR hl1 hl2 HN HM HQ
    have t0 : w5.cell? ⟨R, 0, none⟩ = some (Value.int .u32 gen) := (blk_cell GS5.out.at_ 0).trans rfl
    have t1 : w5.cell? ⟨R, 1, none⟩ = some (Value.slice A9 xs.length c9) := (blk_cell GS5.out.at_ 1).trans rfl
    have f6 : w5.frozen? ⟨b, 6, none⟩ = false := blk_frozen GS5.out.ps.blk 6
    have c6 : w5.cell? ⟨b, 6, none⟩ = some (.int .i64 h) := (blk_cell GS5.out.ps.blk 6).trans rfl
    clear HL9
    have hbw := HF.out b HOWN.out
    have TOLD := GS5.out.ps.told2 (h' := h + 1) (m' := m) GS5.out.mi rfl HOWN.out HONE.out (blk_put GS5.out.ps.blk 6 _ rfl) (by omega)
    have hli := R25_setb (u := .int .i64 (h + 1)) (i := 6) GS5.out.li GS5.out.ps.blk
    have hR6 : (w5.setCell ⟨b, 6, none⟩ (.int .i64 (h + 1))).heap[R]? = some (.cells #[Value.int .u32 gen, Value.slice A9 xs.length c9] 79 (0, 0)) := (Below.heap_setCell _ _ _ _ (fun e => by have e : R = b := e; have h1 := GS5.out.at_; rw [e] at h1; exact cb_not GS5.out.ps.blk h1 (by decide))).trans GS5.out.at_
    obtain ⟨w6, hw6⟩ : ∃ w6, w6 = w5.setCell ⟨b, 6, none⟩ (.int .i64 (h + 1)) := ⟨_, rfl⟩
    rw [← hw6] at TOLD hli hR6
    obtain ⟨_, hle, hC⟩ := Kd.R_reads' hli
    have CL := clone_any A9 c9 xs w6 hC hle hx
    have HT := Lib.hid TOLD
    have s1 : w6.cell? ⟨R, 1, none⟩ = some (Value.slice A9 xs.length c9) := (blk_cell hR6 1).trans rfl
    clear TOLD hli hR6 hC
    have HW6 := Lib.hid hw6
    clear hw6
    go_wp2_with (first | (go_at_call 27; refine (add_one ⟨b, 6, none⟩ h _ c6 f6 hh0 hh1).mono ?_; rintro e w6' ⟨rfl, hw6'⟩; rw [← HW6.out] at hw6'; rw [hw6']; clear hw6' w6' t0 t1 f6 c6) | (go_at_call 25; refine CL.mono ?_; rintro e w7 ⟨v, rfl, hv, hb⟩; obtain ⟨A10, c10, rfl, _⟩ := Kd.R_reads hv; have HV := Lib.hid hv; have HB := Lib.hid hb; clear hv hb CL s1))
    refine bodyPost_ret (results_tmp2 rfl _ _ _) rfl ?_
    have hsz := HT.out.2.1.size
    exact ⟨_, w6.heap.size, rfl, hsz, HB.out.size, HV.out, (HT.out.1.mono (F' := fun x => (F x ∨ w.heap.size ≤ x) ∧ x < w6.heap.size) (fun x hx hl => ⟨hx.imp id Nat.le_of_lt, hl⟩)).below HB.out, HT.out.2.1.trans (Mod.of_below HB.out)⟩
end
end Go.Proofs.Ytnmfmcjgjjanfaa.Cache
