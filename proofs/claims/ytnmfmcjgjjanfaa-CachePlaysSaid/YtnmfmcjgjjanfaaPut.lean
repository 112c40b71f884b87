/- (*Cache).Put. -/
import Derived.Test.YtnmfmcjgjjanfaaOrd
import Derived.Deep.RegionHeld3
namespace Go.Proofs.Ytnmfmcjgjjanfaa.Cache
open Go Go.RowKit Go.Proofs.YtnmfmcjgjjanfaaW.PrintWords Go.Proofs.YtnmfmcjgjjanfaaW.PrintLast Go.Proofs.YtnmfmcjgjjanfaaW.PrintMore Go.Proofs.Ytnmfmcjgjjanfaa.Pr Go.Proofs.Ytnmfmcjgjjanfaa.Lits
set_option linter.unusedVariables false
set_option linter.unusedSimpArgs false
/-- What stands in the midst of a Put: the cache's block, the key's, the order; all else is as it was. -/
structure PS (F : Nat → Prop) (b mb : Nat) (most : Int) (ov : Value) (ks : List K) (k : K) (h m : Int) (W w : World) : Prop where
  blk : w.heap[b]? = some (cb most 1 (.map (some mb)) ov h m)
  ord : OrdAt (fun x => F x ∨ W.heap.size < x) w ov ks
  key : w.heap[W.heap.size]? = some (.cells #[.int .u32 k.1, .int .i64 k.2] 75 (0, 0))
  mod : Mod F W w
section
variable {F : Nat → Prop} {W w w1 : World} {ms : List En} {b mb : Nat} {most d h m : Int} {ov : Value} {ks : List K} {k : K}
theorem PS.below (hh : PS F b mb most ov ks k h m W w) (hb : Below w.heap.size w w1) : PS F b mb most ov ks k h m W w1 :=
  ⟨blk_below hh.blk hb, hh.ord.step (fun _ _ _ ho => hb.block _ (blk_lt ho)) (fun _ hx _ => hx), blk_below hh.key hb, hh.mod.trans (Mod.of_below hb)⟩
theorem MapIs.below {F : Nat → Prop} (hh : MapIs F w mb ms) (hb : Below w.heap.size w w1) : MapIs F w1 mb ms := hh.step (fun _ _ _ ho _ => hb.block _ (blk_lt ho)) (fun _ hx _ => hx)
def PSS (F : Nat → Prop) (b mb : Nat) (most : Int) (ov : Value) (ks : List K) (k : K) (h m : Int) (W w : World) : Prop :=
  Aside0 (PS F b mb most ov ks k h m W w) ∧ w.cell? ⟨W.heap.size, 0, none⟩ = some (.int .u32 k.1) ∧ w.cell? ⟨W.heap.size, 1, none⟩ = some (.int .i64 k.2)
theorem PS.all (hh : PS F b mb most ov ks k h m W w) : Aside0 (PS F b mb most ov ks k h m W w) ∧ w.cell? ⟨W.heap.size, 0, none⟩ = some (.int .u32 k.1) ∧ w.cell? ⟨W.heap.size, 1, none⟩ = some (.int .i64 k.2) :=
  ⟨Aside0.mk hh, (blk_cell hh.key 0).trans rfl, (blk_cell hh.key 1).trans rfl⟩
/-- The map is told a new key. -/
theorem PS.told (hh : PS F b mb most ov ks k h m W w) (hM : MapIs (fun x => F x ∨ W.heap.size < x) w mb ms) (gen : Int) (xs : List S25) {v : Value} {base : Nat} (hv : Kd.R k25 25 w base (fun _ => True) v xs) (hbase : W.heap.size < base) (hk : idx ms k = none) :
    ∃ w', (Instr.mapUpdate 67 (.map (some mb)) (.agg #[.int .u32 k.1, .int .i64 k.2]) (.agg #[.int .u32 gen, v])).run Try.prog w = .ok () w' ∧ PS F b mb most ov ks k h m W w' ∧ MapIs (fun x => F x ∨ W.heap.size < x) w' mb (ms ++ [(k, gen, xs)]) := by
  obtain ⟨hmb, es, clock, h1, h2, h2b⟩ := hM
  have hne : ∀ {x : Nat} {cells : Array Value} {t : TypeId}, w.heap[x]? = some (.cells cells t (0, 0)) → x ≠ mb := fun hc e => by rw [e] at hc; rw [hc] at h1; cases h1
  refine ⟨_, run_update h2 h1 k (.agg #[.int .u32 gen, v]) hk, ⟨(putB_ne (hne hh.blk)).trans hh.blk, hh.ord.step (fun x cells _ hc => putB_ne (hne hc)) (fun _ hx _ => hx), (putB_ne (hne hh.key)).trans hh.key, hh.mod.put (hmb.imp id Nat.le_of_lt) _⟩, hmb, _, _, putB_same (blk_lt h1), ?_⟩
  have h3 := h2.push (k, gen, xs) v clock (Kd.R_mono (Kd.R_lower (Kd.R_bound hv) (Nat.zero_le _)) (fun x hx => .inr (Nat.lt_of_lt_of_le hbase hx.2.1)))
  exact ⟨h3.step (fun x cells _ hc => putB_ne (hne hc)) (fun _ hx _ => hx), h2b.push _ _⟩
end
section
variable {F : Nat → Prop} {w : World} {ms : List En} {b : Nat} {most d h m : Int}
theorem idx_del (hone : One ms) (k : K) : idx (del ms k) k = none := by
  unfold idx
  rw [keys_del]
  cases hi : idx ms k with
  | none => exact hi
  | some j =>
    rw [List.findIdx?_eq_none_iff]
    intro x hx
    obtain ⟨a, ha, rfl⟩ := List.getElem_of_mem hx
    have hg : ((keysOf ms).eraseIdx j)[a]? = some (((keysOf ms).eraseIdx j)[a]) := List.getElem?_eq_getElem ha
    obtain ⟨h1, h2, h3⟩ := List.findIdx?_eq_some_iff_getElem.1 hi
    rw [List.getElem?_eraseIdx] at hg
    by_cases haj : a < j
    · rw [if_pos haj] at hg
      obtain ⟨h4, h5⟩ := List.getElem?_eq_some_iff.1 hg
      rw [← h5]
      have := h3 a haj
      simpa using this
    · rw [if_neg haj] at hg
      exact hone.behind hi (a + 1) _ (by omega) hg
/-- The lists behind a Put. -/
def grown (ms : List En) (k : K) (gen : Int) (xs : List S25) : List En := del ms k ++ [(k, gen, xs)]
def putL (most : Int) (ms : List En) (k : K) (gen : Int) (xs : List S25) : List En := if most < ((grown ms k gen xs).length : Int) then (grown ms k gen xs).tail else grown ms k gen xs
theorem Mod.trans' {S S2 : Nat → Prop} {w w1 w2 : World} (h : Mod S w w1) (k : Mod S2 w1 w2) (hs : ∀ x, S2 x → S x ∨ w.heap.size ≤ x) : Mod S w w2 :=
  ⟨k.os.trans h.os, k.tape.trans h.tape, k.output.trans h.output, Nat.le_trans h.size k.size, fun j hj hn => (k.keep j (Nat.lt_of_lt_of_le hj h.size) (fun hk => (hs j hk).elim hn (fun h => by omega))).trans (h.keep j hj hn)⟩
/-- The order is told the key. -/
theorem PS.done {W w w1 : World} {mb : Nat} {ov v1 : Value} {ks : List K} {k : K} {base : Nat} {ms : List En} (hh : PS F b mb most ov ks k h m W w) (hM : MapIs (fun x => F x ∨ W.heap.size < x) w mb ms) (hown : F b) (hone : One ms) (hnF : ¬ F W.heap.size)
    (hk : keysOf ms = ks ++ [k]) (hg : w.grownBy w1 ov.ownBlock) (hr : Kd.R kK 75 w1 base (fun x => F x ∨ W.heap.size < x) v1 (ks ++ [k])) :
    w1.heap[b]? = some (cb most 1 (.map (some mb)) ov h m) ∧ w1.heap[W.heap.size]? = some (.cells #[.int .u32 k.1, .int .i64 k.2] 75 (0, 0)) ∧ ∃ g cap cur e0 rest, v1 = .slice (some ⟨g, 0, none⟩) ms.length cap ∧ ms = e0 :: rest ∧
      (w1.setCell ⟨b, 5, none⟩ v1).heap[b]? = some (cb most 1 (.map (some mb)) (.slice (some ⟨g, 0, none⟩) ms.length cap) h m) ∧ (w1.setCell ⟨b, 5, none⟩ v1).heap[g]? = some (.cells cur 75 (0, 0)) ∧ cur[0]? = some (.int .u32 e0.1.1) ∧ cur[1]? = some (.int .i64 e0.1.2) ∧
      Holds (fun x => F x ∨ W.heap.size < x) b most 1 ms h m (w1.setCell ⟨b, 5, none⟩ v1) ∧ Mod F W (w1.setCell ⟨b, 5, none⟩ v1) := by
  have hb := hh.blk
  have h75 : ∀ x, ov.ownBlock = some x → ∃ cells, w.heap[x]? = some (.cells cells 75 (0, 0)) := fun x hx => (hh.ord.own75 hx).2
  have hb1 : w1.heap[b]? = some (cb most 1 (.map (some mb)) ov h m) := (hg.block b (blk_lt hb) (fun e => by obtain ⟨cells, hc⟩ := h75 b e.symm; exact cb_not hb hc (by decide))).trans hb
  have hk1 : w1.heap[W.heap.size]? = some (.cells #[.int .u32 k.1, .int .i64 k.2] 75 (0, 0)) := (hg.block _ (blk_lt hh.key) (fun e => by have := (hh.ord.own75 e.symm).1; rcases this with h | h; exact hnF h; omega)).trans hh.key
  have hO := OrdAt.of hr
  rw [← hk] at hO
  refine ⟨hb1, hk1, ?_⟩
  have hM2 : MapIs (fun x => F x ∨ W.heap.size < x) (w1.setCell ⟨b, 5, none⟩ v1) mb ms := hM.step (fun x o _ ho hp => by
    have h1 : w1.heap[x]? = w.heap[x]? := hg.block x (blk_lt ho) (fun e => by
      obtain ⟨cells, hc⟩ := h75 x e.symm
      rw [ho] at hc
      rcases hp with ⟨es, c, rfl⟩ | ⟨cells, rfl⟩
      · cases hc
      · injection hc with hc; injection hc with _ hc _; exact absurd hc (by decide))
    refine (Below.heap_setCell _ _ _ _ (fun e => ?_)).trans h1
    have e : x = b := e
    subst e
    rcases hp with ⟨es, c, rfl⟩ | ⟨cells, rfl⟩
    · exact cb_map hb ho
    · exact cb_not hb ho (by decide)) (fun _ hx _ => hx)
  have hO2 : OrdAt (fun x => F x ∨ W.heap.size < x) (w1.setCell ⟨b, 5, none⟩ v1) v1 (keysOf ms) := hO.step (fun x cells _ hc => Below.heap_setCell _ _ _ _ (fun e => by have e : x = b := e; subst e; exact cb_not hb1 hc (by decide))) (fun _ hx _ => hx)
  have hmod : Mod F W (w1.setCell ⟨b, 5, none⟩ v1) := by
    refine Mod.set ?_ (.inl hown) _
    refine ⟨hg.os.trans hh.mod.os, hg.tape.trans hh.mod.tape, hg.output.trans hh.mod.output, Nat.le_trans hh.mod.size hg.size, fun x hx hn => ?_⟩
    refine (hg.block x (Nat.lt_of_lt_of_le hx hh.mod.size) (fun e => ?_)).trans (hh.mod.keep x hx hn)
    rcases (hh.ord.own75 e.symm).1 with h | h
    · exact hn h
    · omega
  have hlen : (keysOf ms).length = ms.length := by simp [keysOf]
  rcases id hO2 with ⟨_, hn⟩ | ⟨g, cap, cur, rfl, hg2, hgb, hsz, hcap, hmax, hcur⟩
  · rw [hk] at hn; simp at hn
  · rw [hlen] at *
    cases ms with
    | nil => simp [keysOf] at hk
    | cons e0 rest =>
      obtain ⟨c0, c1⟩ := hcur 0 e0.1 rfl
      exact ⟨g, cap, cur, e0, rest, rfl, rfl, blk_put hb1 5 _ rfl, hgb, c0, c1, ⟨.inl hown, ⟨_, _, blk_put hb1 5 _ rfl, .inr ⟨mb, rfl, rfl, hM2⟩, hO2⟩, hone⟩, hmod⟩
theorem One.grown (hone : One ms) (k : K) (gen : Int) (xs : List S25) : One (grown ms k gen xs) := by
  have h1 := hone.del k
  have h2 := idx_del hone k
  unfold One Cache.grown keysOf at *
  rw [List.map_append, List.pairwise_append]
  refine ⟨h1, by simp, fun a ha b hb => ?_⟩
  simp only [List.map_cons, List.map_nil, List.mem_singleton] at hb
  subst hb
  unfold idx keysOf at h2
  have := List.findIdx?_eq_none_iff.1 h2 a ha
  simpa using this
theorem keys_grown (ms : List En) (k : K) (gen : Int) (xs : List S25) : keysOf (grown ms k gen xs) = keysOf (del ms k) ++ [k] := by simp [keysOf, grown]
theorem del_head (e0 : En) (rest : List En) : del (e0 :: rest) e0.1 = rest := by
  have : idx (e0 :: rest) e0.1 = some 0 := by
    unfold idx keysOf
    rw [List.map_cons, List.findIdx?_cons, (kB_iff _ _).2 rfl]
    rfl
  unfold del
  rw [this]
  rfl
theorem del_le (ms : List En) (k : K) : (del ms k).length ≤ ms.length := by
  unfold del
  cases idx ms k with
  | none => exact Nat.le_refl _
  | some j => exact (List.eraseIdx_sublist _ _).length_le
set_option maxRecDepth 100000 in
set_option maxHeartbeats 1000000 in
theorem put_any (k : K) (gen : Int) (A : Option Addr) (c : Nat) (xs : List S25) (hh : Holds F b most d ms h m w) (hn : ms.length ≤ 1000) (hF : ∀ x, F x → x < w.heap.size)
    (hL : ∀ w', Mod F w w' → Kd.C k25 w' A xs.length xs) (hc : xs.length ≤ c) (hx : xs.length ≤ 1000000) :
    Calls Try.prog 10 #[.pointer (some ⟨b, 0, none⟩), .int .u32 k.1, .int .i64 k.2, .int .u32 gen, .slice A xs.length c] w fun e w' => e = .returned (.tuple #[]) ∧ Holds (fun x => F x ∨ w.heap.size ≤ x) b most 1 (putL most ms k gen xs) h m w' ∧ Mod F w w' := by
  have hlt := hF b hh.own
  have hh1 : Holds F b most d ms h m (w.alloc (.cells #[.int .u32 k.1, .int .i64 k.2] 75)) := hh.below ((Below.refl _ _).alloc (Nat.le_refl _) _)
  have RM := remove_any k hh1 (by omega) (fun x hx => by have := hF x hx; simp; omega)
  have hkey : (w.alloc (.cells #[.int .u32 k.1, .int .i64 k.2] 75)).heap[w.heap.size]? = some (.cells #[.int .u32 k.1, .int .i64 k.2] 75 (0, 0)) := blk_new w _
  have HMID : ∀ w2, Holds (fun x => F x ∨ (w.alloc (.cells #[.int .u32 k.1, .int .i64 k.2] 75)).heap.size ≤ x) b most 1 (del ms k) h m w2 → Mod F (w.alloc (.cells #[.int .u32 k.1, .int .i64 k.2] 75)) w2 →
      ∃ mb ov, PS F b mb most ov (keysOf (del ms k)) k h m w w2 ∧ MapIs (fun x => F x ∨ w.heap.size < x) w2 mb (del ms k) := by
    intro w2 h2 h3
    have h2' := h2.mono (F' := fun x => F x ∨ w.heap.size < x) (fun x hx _ => hx.imp_right (fun h => by simp at h; omega))
    obtain ⟨mv, ov, h4, h5, h6⟩ := h2'.blk
    rcases h5 with ⟨h5, _⟩ | ⟨mb, _, rfl, h5⟩
    · exact absurd h5 (by decide)
    exact ⟨mb, ov, ⟨h4, h6, (h3.keep _ (blk_lt hkey) (fun hx => by have := hF _ hx; omega)).trans hkey, (Mod.of_below ((Below.refl _ _).alloc (Nat.le_refl _) _)).trans h3⟩, h5⟩
  have HONE := Lib.hid hh.one
  have HMI := Lib.hid HMID
  have HL := Lib.hid hL
  have HF := Lib.hid hF
  have HN := Lib.hid hn
  have HC := Lib.hid hc
  have HX := Lib.hid hx
  have HOWN := Lib.hid hh.own
  have HLT := Lib.hid hlt
  clear hh hh1 hkey HMID hL hF hn hc hx hlt
  unfold kv at RM
  go_enter Try.func10, Try.ntmps10
  go_wp2_with (go_at_call 24; refine RM.mono ?_; rintro e w2 ⟨rfl, h2, h3⟩; obtain ⟨mb, ov, PS2, MI2⟩ := HMI.out w2 h2 h3; have HN := Aside0.mk (PS2.below (below_drew (Below.refl _ _))); have HM := Aside0.mk (MI2.below (below_drew (Below.refl _ _))); clear h2 h3 PS2 MI2 HMI RM)
  go_region_held3 (fun w' => Aside0 (PS F b mb most ov (keysOf (del ms k)) k h m w w') ∧ w'.cell? ⟨w.heap.size, 0, none⟩ = some (.int .u32 k.1) ∧ w'.cell? ⟨w.heap.size, 1, none⟩ = some (.int .i64 k.2))
    (first | exact PS.all HN.out | exact PS.all HN5.out)
    (first
      | (go_at_call 26; refine (place_done mb HN.out.blk).mono ?_; rintro e w4 ⟨rfl, hb9⟩; have HN2 := Aside0.mk (HN.out.below hb9); have HM2 := Aside0.mk (HM.out.below hb9); clear HN HM hb9; have HN := HN2; have HM := HM2; clear HN2 HM2)
      | (go_at_call 25; refine (clone_any A c xs _ (HL.out _ HN.out.mod) HC.out HX.out).mono ?_; rintro e w4 ⟨v, rfl, hv, hb9⟩; obtain ⟨w5, hup, hp5, hm5⟩ := (HN.out.below hb9).told (HM.out.below hb9) gen xs hv (blk_lt HN.out.key) (idx_del HONE.out k); obtain ⟨A1, c1, rfl, _⟩ := Kd.R_reads hv; have HN2 := Aside0.mk (HN.out.below hb9); have HN5 := Aside0.mk hp5; have HM := Aside0.mk hm5; clear HN hb9 hv hp5 hm5; have HN := HN2; clear HN2))
  -- region 3
  have HPS := Lib.hid (HN5.out.below (below_drew (Below.refl _ _)))
  have HM9 := Lib.hid (HM.out.below (below_drew (Below.refl _ _)))
  clear HM HN HN5 hup
  have HM := HM9
  clear HM9
  rename Hid (ms.length ≤ 1000) => HN0
  obtain ⟨ms1, hms1⟩ : ∃ ms1, ms1 = grown ms k gen xs := ⟨_, rfl⟩
  have HO1 : Hid (One ms1) := Lib.hid (by rw [hms1]; exact HONE.out.grown k gen xs)
  have HK1 : Hid (keysOf ms1 = keysOf (del ms k) ++ [k]) := Lib.hid (by rw [hms1]; exact keys_grown ms k gen xs)
  have HL1 : Hid (ms1.length ≤ 1001) := Lib.hid (by rw [hms1]; have := HN0.out; have := del_le ms k; simp [grown]; omega)
  rw [show del ms k ++ [(k, gen, xs)] = ms1 from hms1.symm] at HM
  have HMS1 := Lib.hid hms1
  clear hms1
  go_wp2
  refine wp_region_any (by kernel_rfl) ?_
  change wpAny _ _ _ _ _ _ _ (World.drew _)
  obtain ⟨w6, hw6⟩ : ∃ w6, w6 = w5.drew := ⟨_, rfl⟩
  rw [← hw6] at HPS HM ⊢
  clear hw6
  have c5 : w6.cell? ⟨b, 5, none⟩ = some ov := (blk_cell HPS.out.blk 5).trans rfl
  have k0 : w6.cell? ⟨w.heap.size, 0, none⟩ = some (.int .u32 k.1) := (blk_cell HPS.out.key 0).trans rfl
  have k1 : w6.cell? ⟨w.heap.size, 1, none⟩ = some (.int .i64 k.2) := (blk_cell HPS.out.key 1).trans rfl
  refine wpAny_take (i := 0) (v := ?_) rfl (by kernel_rfl) (by kernel_rfl) (by kernel_rfl) (fun _ _ _ h => h) (Or.inl ⟨by rfl, ?_⟩) ?_
  rotate_left
  · intro w; go_simp; rfl
  try simp only [Act.put, List.setIfInBounds_toArray, List.set_cons_zero, List.set_cons_succ]
  refine wpAny_take (i := 1) (v := ?_) rfl (by kernel_rfl) (by kernel_rfl) (by kernel_rfl) (fun _ _ _ h => h) (Or.inl ⟨by rfl, ?_⟩) ?_
  rotate_left
  · intro w; go_simp; rfl
  try simp only [Act.put, List.setIfInBounds_toArray, List.set_cons_zero, List.set_cons_succ]
  refine wpAny_take (i := 2) (v := ?_) rfl (by kernel_rfl) (by kernel_rfl) (by kernel_rfl) (fun _ _ _ h => h) (Or.inl ⟨by rfl, ?_⟩) ?_
  rotate_left
  · intro w; go_simp; rfl
  try simp only [Act.put, List.setIfInBounds_toArray, List.set_cons_zero, List.set_cons_succ]
  refine wpAny_take (i := 3) (v := ?_) rfl (by kernel_rfl) (by kernel_rfl) (by kernel_rfl) (fun _ _ _ h => h) (Or.inl ⟨by rfl, ?_⟩) ?_
  rotate_left
  · intro w; go_simp; rfl
  try simp only [Act.put, List.setIfInBounds_toArray, List.set_cons_zero, List.set_cons_succ]
  refine wpAny_ready (rs := [4, 5]) (by kernel_rfl) (by simp) ?_
  refine AllReady.cons rfl (fun K hK => ?_) ?_
  · go_simp
    refine hK _ _ ?_
    clear hK K
    refine wpAny_ready (rs := [5]) (by kernel_rfl) (by simp) ?_
    refine AllReady.cons rfl (fun K hK => ?_) AllReady.nil
    go_simp
    refine hK _ _ ?_
    clear hK K
    refine wpAny_ready (rs := [6]) (by kernel_rfl) (by simp) ?_
    refine AllReady.cons rfl (fun K hK => ?_) AllReady.nil
    go_simp
    refine hK _ _ ?_
    clear hK K
    refine wpAny_ready (rs := [7]) (by kernel_rfl) (by simp) ?_
    refine AllReady.cons rfl (fun K hK => ?_) AllReady.nil
    refine Kd.R_append_step kK (w0 := w6) 0 (by rfl) (.tmp 28) (.tmp 30) 68 75 (.agg #[.int .u32 0, .int .i64 0]) 16 rfl Try.underlying68 info75 rfl (by decide) (by omega) ov (keysOf (del ms k)) k [.int .u32 k.1, .int .i64 k.2] (fun x => F x ∨ w.heap.size < x) (fun _ => False) rfl rfl ?aP (fun _ hk => hk.elim) ?aF ?aO ?aB (Nat.zero_le _) ?aL ?_
    case aP => exact kK_mk _ _ _ _
    case aF => intro x hx; have := blk_lt HPS.out.key; exact .inr (by omega)
    case aO => exact HPS.out.ord.row
    case aB => exact Below.refl _ _
    case aL => have := HN0.out; have := del_le ms k; simp [keysOf]; omega
    intro v1 w7 ho hb hg hat
    obtain ⟨hb7, hq7, g, cap, cur, e0, rest, rfl, hms, FIN⟩ := HPS.out.done HM.out HOWN.out HO1.out (fun h => absurd (HF.out _ h) (by omega)) HK1.out hg ho
    have d5 : w7.cell? ⟨b, 5, none⟩ = some ov := (blk_cell hb7 5).trans rfl
    have f5 : w7.frozen? ⟨b, 5, none⟩ = false := blk_frozen hb7 5
    have HFIN := Lib.hid FIN
    have HMS := Lib.hid hms
    clear hb7 hq7 ho hb hg hat FIN hms HPS HM c5 k0 k1
    refine hK _ _ ?_
    clear hK K
    refine wpAny_ready (rs := [8]) (by kernel_rfl) (by simp) ?_
    refine AllReady.cons rfl (fun K hK => ?_) AllReady.nil
    go_simp
    refine hK _ _ ?_
    clear hK K
    refine wpAny_ready (rs := [9]) (by kernel_rfl) (by simp) ?_
    refine AllReady.cons rfl (fun K hK => ?_) AllReady.nil
    go_simp
    refine hK _ _ ?_
    clear hK K
    refine wpAny_ready (rs := [10]) (by kernel_rfl) (by simp) ?_
    refine AllReady.cons rfl (fun K hK => ?_) AllReady.nil
    go_simp
    refine hK _ _ ?_
    clear hK K
    refine wpAny_done (by kernel_rfl) ?_ _
    clear d5 f5
    obtain ⟨w8, hw8⟩ : ∃ w8, w8 = w7.setCell ⟨b, 5, none⟩ (.slice (some ⟨g, 0, none⟩) ms1.length cap) := ⟨_, rfl⟩
    rw [← hw8] at HFIN
    try rw [← hw8]
    clear hw8
    have c0 : w8.cell? ⟨b, 0, none⟩ = some (.int .i64 most) := (blk_cell HFIN.out.1 0).trans rfl
    have c5 : w8.cell? ⟨b, 5, none⟩ = some (.slice (some ⟨g, 0, none⟩) ms1.length cap) := (blk_cell HFIN.out.1 5).trans rfl
    have hl1 : ms1.length ≤ 1001 := HL1.out
    have hl0 : 0 < ms1.length := by rw [HMS.out]; simp
    have HB := Aside0.mk (below_drew (Below.refl w8.heap.size w8))
    go_wp2
    go_region_held3 (fun w' => Aside0 (Below w8.heap.size w8 w') ∧ w'.cell? ⟨b, 0, none⟩ = some (.int .i64 most) ∧ w'.cell? ⟨b, 5, none⟩ = some (.slice (some ⟨g, 0, none⟩) ms1.length cap))
      (exact ⟨HB, c0, c5⟩) (fail)
    clear HB c0 c5
    obtain ⟨w9, hw9⟩ : ∃ w9, w9 = w8.drew := ⟨_, rfl⟩
    have HF9 : Hid (w9.heap[b]? = some (cb most 1 (.map (some mb)) (.slice (some ⟨g, 0, none⟩) ms1.length cap) h m) ∧ w9.heap[g]? = some (.cells cur 75 (0, 0)) ∧ cur[0]? = some (.int .u32 e0.1.1) ∧ cur[1]? = some (.int .i64 e0.1.2) ∧ Holds (fun x => F x ∨ w.heap.size < x) b most 1 ms1 h m w9 ∧ Mod F w w9) := by
      obtain ⟨p1, p2, p3, p4, p5, p6⟩ := HFIN.out
      rw [hw9]
      exact Lib.hid ⟨p1, p2, p3, p4, p5.below (below_drew (Below.refl _ _)), p6.drew⟩
    rw [← hw9]
    clear hw9 HFIN
    have c5 : w9.cell? ⟨b, 5, none⟩ = some (.slice (some ⟨g, 0, none⟩) ms1.length cap) := (blk_cell HF9.out.1 5).trans rfl
    have q0 : w9.cell? ⟨g, 0, none⟩ = some (.int .u32 e0.1.1) := (blk_cell HF9.out.2.1 0).trans HF9.out.2.2.1
    have q1 : w9.cell? ⟨g, 1, none⟩ = some (.int .i64 e0.1.2) := (blk_cell HF9.out.2.1 1).trans HF9.out.2.2.2.1
    by_cases hgt : most < (ms1.length : Int)
    · have hh9 : Holds (fun x => (F x ∨ w.heap.size < x) ∧ x < w9.heap.size) b most 1 ms1 h m w9 := HF9.out.2.2.2.2.1.mono (fun x hx hl => ⟨hx, hl⟩)
      have RM := remove_any e0.1 hh9 (by omega) (fun x hx => hx.2)
      unfold kv at RM
      clear hh9
      go_wp2_with (go_at_call 24; refine RM.mono ?_; rintro e w10 ⟨rfl, h2, h3⟩; have H2 := Lib.hid h2; have H3 := Lib.hid h3; clear h2 h3)
      go_end0
      refine ⟨rfl, ?_, (HF9.out.2.2.2.2.2).trans' H3.out (fun x hx => hx.1.imp id Nat.le_of_lt)⟩
      have e : putL most ms k gen xs = del ms1 e0.1 := by
        unfold putL
        rw [← HMS1.out, if_pos hgt]
        rw [HMS.out, del_head]
        rfl
      rw [e]
      have hsz := HF9.out.2.2.2.2.2.size
      exact H2.out.mono (fun x hx _ => by rcases hx with ⟨h | h, _⟩ | h; exact .inl h; exact .inr (by omega); exact .inr (by omega))
    · go_wp2
      go_end0
      refine ⟨rfl, ?_, (HF9.out.2.2.2.2.2)⟩
      have e : putL most ms k gen xs = ms1 := by
        unfold putL
        rw [← HMS1.out, if_neg (by omega)]
      rw [e]
      exact HF9.out.2.2.2.2.1.mono (fun x hx _ => hx.imp id Nat.le_of_lt)
  refine AllReady.cons rfl (fun K hK => ?_) AllReady.nil
  · go_simp
    refine hK _ _ ?_
    clear hK K
    refine wpAny_ready (rs := [4, 6]) (by kernel_rfl) (by simp) ?_
    refine AllReady.cons rfl (fun K hK => ?_) ?_
    · go_simp
      refine hK _ _ ?_
      clear hK K
      refine wpAny_ready (rs := [6]) (by kernel_rfl) (by simp) ?_
      refine AllReady.cons rfl (fun K hK => ?_) AllReady.nil
      go_simp
      refine hK _ _ ?_
      clear hK K
      refine wpAny_ready (rs := [7]) (by kernel_rfl) (by simp) ?_
      refine AllReady.cons rfl (fun K hK => ?_) AllReady.nil
      refine Kd.R_append_step kK (w0 := w6) 0 (by rfl) (.tmp 28) (.tmp 30) 68 75 (.agg #[.int .u32 0, .int .i64 0]) 16 rfl Try.underlying68 info75 rfl (by decide) (by omega) ov (keysOf (del ms k)) k [.int .u32 k.1, .int .i64 k.2] (fun x => F x ∨ w.heap.size < x) (fun _ => False) rfl rfl ?aP (fun _ hk => hk.elim) ?aF ?aO ?aB (Nat.zero_le _) ?aL ?_
      case aP => exact kK_mk _ _ _ _
      case aF => intro x hx; have := blk_lt HPS.out.key; exact .inr (by omega)
      case aO => exact HPS.out.ord.row
      case aB => exact Below.refl _ _
      case aL => have := HN0.out; have := del_le ms k; simp [keysOf]; omega
      intro v1 w7 ho hb hg hat
      obtain ⟨hb7, hq7, g, cap, cur, e0, rest, rfl, hms, FIN⟩ := HPS.out.done HM.out HOWN.out HO1.out (fun h => absurd (HF.out _ h) (by omega)) HK1.out hg ho
      have d5 : w7.cell? ⟨b, 5, none⟩ = some ov := (blk_cell hb7 5).trans rfl
      have f5 : w7.frozen? ⟨b, 5, none⟩ = false := blk_frozen hb7 5
      have HFIN := Lib.hid FIN
      have HMS := Lib.hid hms
      clear hb7 hq7 ho hb hg hat FIN hms HPS HM c5 k0 k1
      refine hK _ _ ?_
      clear hK K
      refine wpAny_ready (rs := [8]) (by kernel_rfl) (by simp) ?_
      refine AllReady.cons rfl (fun K hK => ?_) AllReady.nil
      go_simp
      refine hK _ _ ?_
      clear hK K
      refine wpAny_ready (rs := [9]) (by kernel_rfl) (by simp) ?_
      refine AllReady.cons rfl (fun K hK => ?_) AllReady.nil
      go_simp
      refine hK _ _ ?_
      clear hK K
      refine wpAny_ready (rs := [10]) (by kernel_rfl) (by simp) ?_
      refine AllReady.cons rfl (fun K hK => ?_) AllReady.nil
      go_simp
      refine hK _ _ ?_
      clear hK K
      refine wpAny_done (by kernel_rfl) ?_ _
      clear d5 f5
      obtain ⟨w8, hw8⟩ : ∃ w8, w8 = w7.setCell ⟨b, 5, none⟩ (.slice (some ⟨g, 0, none⟩) ms1.length cap) := ⟨_, rfl⟩
      rw [← hw8] at HFIN
      try rw [← hw8]
      clear hw8
      have c0 : w8.cell? ⟨b, 0, none⟩ = some (.int .i64 most) := (blk_cell HFIN.out.1 0).trans rfl
      have c5 : w8.cell? ⟨b, 5, none⟩ = some (.slice (some ⟨g, 0, none⟩) ms1.length cap) := (blk_cell HFIN.out.1 5).trans rfl
      have hl1 : ms1.length ≤ 1001 := HL1.out
      have hl0 : 0 < ms1.length := by rw [HMS.out]; simp
      have HB := Aside0.mk (below_drew (Below.refl w8.heap.size w8))
      go_wp2
      go_region_held3 (fun w' => Aside0 (Below w8.heap.size w8 w') ∧ w'.cell? ⟨b, 0, none⟩ = some (.int .i64 most) ∧ w'.cell? ⟨b, 5, none⟩ = some (.slice (some ⟨g, 0, none⟩) ms1.length cap))
        (exact ⟨HB, c0, c5⟩) (fail)
      clear HB c0 c5
      obtain ⟨w9, hw9⟩ : ∃ w9, w9 = w8.drew := ⟨_, rfl⟩
      have HF9 : Hid (w9.heap[b]? = some (cb most 1 (.map (some mb)) (.slice (some ⟨g, 0, none⟩) ms1.length cap) h m) ∧ w9.heap[g]? = some (.cells cur 75 (0, 0)) ∧ cur[0]? = some (.int .u32 e0.1.1) ∧ cur[1]? = some (.int .i64 e0.1.2) ∧ Holds (fun x => F x ∨ w.heap.size < x) b most 1 ms1 h m w9 ∧ Mod F w w9) := by
        obtain ⟨p1, p2, p3, p4, p5, p6⟩ := HFIN.out
        rw [hw9]
        exact Lib.hid ⟨p1, p2, p3, p4, p5.below (below_drew (Below.refl _ _)), p6.drew⟩
      rw [← hw9]
      clear hw9 HFIN
      have c5 : w9.cell? ⟨b, 5, none⟩ = some (.slice (some ⟨g, 0, none⟩) ms1.length cap) := (blk_cell HF9.out.1 5).trans rfl
      have q0 : w9.cell? ⟨g, 0, none⟩ = some (.int .u32 e0.1.1) := (blk_cell HF9.out.2.1 0).trans HF9.out.2.2.1
      have q1 : w9.cell? ⟨g, 1, none⟩ = some (.int .i64 e0.1.2) := (blk_cell HF9.out.2.1 1).trans HF9.out.2.2.2.1
      by_cases hgt : most < (ms1.length : Int)
      · have hh9 : Holds (fun x => (F x ∨ w.heap.size < x) ∧ x < w9.heap.size) b most 1 ms1 h m w9 := HF9.out.2.2.2.2.1.mono (fun x hx hl => ⟨hx, hl⟩)
        have RM := remove_any e0.1 hh9 (by omega) (fun x hx => hx.2)
        unfold kv at RM
        clear hh9
        go_wp2_with (go_at_call 24; refine RM.mono ?_; rintro e w10 ⟨rfl, h2, h3⟩; have H2 := Lib.hid h2; have H3 := Lib.hid h3; clear h2 h3)
        go_end0
        refine ⟨rfl, ?_, (HF9.out.2.2.2.2.2).trans' H3.out (fun x hx => hx.1.imp id Nat.le_of_lt)⟩
        have e : putL most ms k gen xs = del ms1 e0.1 := by
          unfold putL
          rw [← HMS1.out, if_pos hgt]
          rw [HMS.out, del_head]
          rfl
        rw [e]
        have hsz := HF9.out.2.2.2.2.2.size
        exact H2.out.mono (fun x hx _ => by rcases hx with ⟨h | h, _⟩ | h; exact .inl h; exact .inr (by omega); exact .inr (by omega))
      · go_wp2
        go_end0
        refine ⟨rfl, ?_, (HF9.out.2.2.2.2.2)⟩
        have e : putL most ms k gen xs = ms1 := by
          unfold putL
          rw [← HMS1.out, if_neg (by omega)]
        rw [e]
        exact HF9.out.2.2.2.2.1.mono (fun x hx _ => hx.imp id Nat.le_of_lt)
    refine AllReady.cons rfl (fun K hK => ?_) AllReady.nil
    · go_simp
      refine hK _ _ ?_
      clear hK K
      have c5a : (w6.alloc (.cells #[.int .u32 k.1, .int .i64 k.2] 75)).cell? ⟨b, 5, none⟩ = some ov := (blk_cell (blk_alloc HPS.out.blk _) 5).trans rfl
      refine wpAny_ready (rs := [4]) (by kernel_rfl) (by simp) ?_
      refine AllReady.cons rfl (fun K hK => ?_) AllReady.nil
      go_simp
      refine hK _ _ ?_
      clear hK K
      clear c5a
      refine wpAny_ready (rs := [7]) (by kernel_rfl) (by simp) ?_
      refine AllReady.cons rfl (fun K hK => ?_) AllReady.nil
      refine Kd.R_append_step kK (w0 := w6) 0 (by rfl) (.tmp 28) (.tmp 30) 68 75 (.agg #[.int .u32 0, .int .i64 0]) 16 rfl Try.underlying68 info75 rfl (by decide) (by omega) ov (keysOf (del ms k)) k [.int .u32 k.1, .int .i64 k.2] (fun x => F x ∨ w.heap.size < x) (fun _ => False) rfl rfl ?aP (fun _ hk => hk.elim) ?aF ?aO ?aB (Nat.zero_le _) ?aL ?_
      case aP => exact kK_mk _ _ _ _
      case aF => intro x hx; have := blk_lt HPS.out.key; exact .inr (by omega)
      case aO => exact HPS.out.ord.row
      case aB => exact Below.refl _ _
      case aL => have := HN0.out; have := del_le ms k; simp [keysOf]; omega
      intro v1 w7 ho hb hg hat
      obtain ⟨hb7, hq7, g, cap, cur, e0, rest, rfl, hms, FIN⟩ := HPS.out.done HM.out HOWN.out HO1.out (fun h => absurd (HF.out _ h) (by omega)) HK1.out hg ho
      have d5 : w7.cell? ⟨b, 5, none⟩ = some ov := (blk_cell hb7 5).trans rfl
      have f5 : w7.frozen? ⟨b, 5, none⟩ = false := blk_frozen hb7 5
      have HFIN := Lib.hid FIN
      have HMS := Lib.hid hms
      clear hb7 hq7 ho hb hg hat FIN hms HPS HM c5 k0 k1
      refine hK _ _ ?_
      clear hK K
      refine wpAny_ready (rs := [8]) (by kernel_rfl) (by simp) ?_
      refine AllReady.cons rfl (fun K hK => ?_) AllReady.nil
      go_simp
      refine hK _ _ ?_
      clear hK K
      refine wpAny_ready (rs := [9]) (by kernel_rfl) (by simp) ?_
      refine AllReady.cons rfl (fun K hK => ?_) AllReady.nil
      go_simp
      refine hK _ _ ?_
      clear hK K
      refine wpAny_ready (rs := [10]) (by kernel_rfl) (by simp) ?_
      refine AllReady.cons rfl (fun K hK => ?_) AllReady.nil
      go_simp
      refine hK _ _ ?_
      clear hK K
      refine wpAny_done (by kernel_rfl) ?_ _
      clear d5 f5
      obtain ⟨w8, hw8⟩ : ∃ w8, w8 = w7.setCell ⟨b, 5, none⟩ (.slice (some ⟨g, 0, none⟩) ms1.length cap) := ⟨_, rfl⟩
      rw [← hw8] at HFIN
      try rw [← hw8]
      clear hw8
      have c0 : w8.cell? ⟨b, 0, none⟩ = some (.int .i64 most) := (blk_cell HFIN.out.1 0).trans rfl
      have c5 : w8.cell? ⟨b, 5, none⟩ = some (.slice (some ⟨g, 0, none⟩) ms1.length cap) := (blk_cell HFIN.out.1 5).trans rfl
      have hl1 : ms1.length ≤ 1001 := HL1.out
      have hl0 : 0 < ms1.length := by rw [HMS.out]; simp
      have HB := Aside0.mk (below_drew (Below.refl w8.heap.size w8))
      go_wp2
      go_region_held3 (fun w' => Aside0 (Below w8.heap.size w8 w') ∧ w'.cell? ⟨b, 0, none⟩ = some (.int .i64 most) ∧ w'.cell? ⟨b, 5, none⟩ = some (.slice (some ⟨g, 0, none⟩) ms1.length cap))
        (exact ⟨HB, c0, c5⟩) (fail)
      clear HB c0 c5
      obtain ⟨w9, hw9⟩ : ∃ w9, w9 = w8.drew := ⟨_, rfl⟩
      have HF9 : Hid (w9.heap[b]? = some (cb most 1 (.map (some mb)) (.slice (some ⟨g, 0, none⟩) ms1.length cap) h m) ∧ w9.heap[g]? = some (.cells cur 75 (0, 0)) ∧ cur[0]? = some (.int .u32 e0.1.1) ∧ cur[1]? = some (.int .i64 e0.1.2) ∧ Holds (fun x => F x ∨ w.heap.size < x) b most 1 ms1 h m w9 ∧ Mod F w w9) := by
        obtain ⟨p1, p2, p3, p4, p5, p6⟩ := HFIN.out
        rw [hw9]
        exact Lib.hid ⟨p1, p2, p3, p4, p5.below (below_drew (Below.refl _ _)), p6.drew⟩
      rw [← hw9]
      clear hw9 HFIN
      have c5 : w9.cell? ⟨b, 5, none⟩ = some (.slice (some ⟨g, 0, none⟩) ms1.length cap) := (blk_cell HF9.out.1 5).trans rfl
      have q0 : w9.cell? ⟨g, 0, none⟩ = some (.int .u32 e0.1.1) := (blk_cell HF9.out.2.1 0).trans HF9.out.2.2.1
      have q1 : w9.cell? ⟨g, 1, none⟩ = some (.int .i64 e0.1.2) := (blk_cell HF9.out.2.1 1).trans HF9.out.2.2.2.1
      by_cases hgt : most < (ms1.length : Int)
      · have hh9 : Holds (fun x => (F x ∨ w.heap.size < x) ∧ x < w9.heap.size) b most 1 ms1 h m w9 := HF9.out.2.2.2.2.1.mono (fun x hx hl => ⟨hx, hl⟩)
        have RM := remove_any e0.1 hh9 (by omega) (fun x hx => hx.2)
        unfold kv at RM
        clear hh9
        go_wp2_with (go_at_call 24; refine RM.mono ?_; rintro e w10 ⟨rfl, h2, h3⟩; have H2 := Lib.hid h2; have H3 := Lib.hid h3; clear h2 h3)
        go_end0
        refine ⟨rfl, ?_, (HF9.out.2.2.2.2.2).trans' H3.out (fun x hx => hx.1.imp id Nat.le_of_lt)⟩
        have e : putL most ms k gen xs = del ms1 e0.1 := by
          unfold putL
          rw [← HMS1.out, if_pos hgt]
          rw [HMS.out, del_head]
          rfl
        rw [e]
        have hsz := HF9.out.2.2.2.2.2.size
        exact H2.out.mono (fun x hx _ => by rcases hx with ⟨h | h, _⟩ | h; exact .inl h; exact .inr (by omega); exact .inr (by omega))
      · go_wp2
        go_end0
        refine ⟨rfl, ?_, (HF9.out.2.2.2.2.2)⟩
        have e : putL most ms k gen xs = ms1 := by
          unfold putL
          rw [← HMS1.out, if_neg (by omega)]
        rw [e]
        exact HF9.out.2.2.2.2.1.mono (fun x hx _ => hx.imp id Nat.le_of_lt)
end
end Go.Proofs.Ytnmfmcjgjjanfaa.Cache
