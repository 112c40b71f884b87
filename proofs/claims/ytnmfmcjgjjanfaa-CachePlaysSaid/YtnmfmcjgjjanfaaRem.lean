/- (*Cache).remove. -/
import Derived.Test.YtnmfmcjgjjanfaaState
import Derived.RegionTactic
import Derived.RegionCalls
namespace Go.Proofs.Ytnmfmcjgjjanfaa.Cache
open Go Go.RowKit Go.Proofs.YtnmfmcjgjjanfaaW.PrintWords Go.Proofs.YtnmfmcjgjjanfaaW.PrintLast Go.Proofs.YtnmfmcjgjjanfaaW.PrintMore Go.Proofs.Ytnmfmcjgjjanfaa.Pr
set_option linter.unusedVariables false
set_option linter.unusedSimpArgs false
section
variable {F : Nat → Prop} {w : World} {ms : List En} {b : Nat} {most d h m : Int}
theorem OrdAt.sl {ov : Value} {ks : List K} (h : OrdAt F w ov ks) : ∃ A n c, ov = .slice A n c := by
  rcases h with ⟨rfl, _⟩ | ⟨g, cap, cur, rfl, _⟩
  · exact ⟨_, _, _, rfl⟩
  · exact ⟨_, _, _, rfl⟩
/-- The world behind the delete. -/
structure Mid (F : Nat → Prop) (b : Nat) (most : Int) (ov : Value) (ms : List En) (k : K) (h m : Int) (W w : World) : Prop where
  blk : ∃ mb, w.heap[b]? = some (cb most 1 (.map (some mb)) ov h m) ∧ MapIs (fun x => F x ∨ W.heap.size ≤ x) w mb (del ms k)
  ord : OrdAt F w ov (keysOf ms)
  key : w.heap[W.heap.size]? = some (.cells #[.int .u32 k.1, .int .i64 k.2] 75 (0, 0))
  mod : Mod (fun x => F x) W w
theorem Mid.mk' {ov : Value} {k : K} {W w1 w2 : World} {mb : Nat} (hown : F b) (hp : PlaceS F b most ov ms h m w1 (.returned (.map (some mb))) w2) (hb : Below W.heap.size W w1)
    (hkey : w1.heap[W.heap.size]? = some (.cells #[.int .u32 k.1, .int .i64 k.2] 75 (0, 0))) (hnb : W.heap.size ≠ b) (hnF : ¬ F W.heap.size) :
    ∃ es clock, w2.heap[mb]? = some (.map es clock) ∧ (Builtin.delete_ #[67, 75] 0 #[.map (some mb), kv k]).run Try.prog w2 = .ok (.tuple #[]) (putB w2 mb (.map (without es ms k) clock)) ∧ Mid F b most ov ms k h m W (putB w2 mb (.map (without es ms k) clock)) := by
  obtain ⟨mb', he, h1, ⟨h2, es, clock, h3, h4, h4b⟩, h5, h6⟩ := hp
  obtain rfl : mb = mb' := by injection he with he; injection he with he; exact Option.some.inj he
  have hmb : b ≠ mb := fun e => by rw [e] at h1; rw [h1] at h3; cases h3
  have hk2 : w2.heap[W.heap.size]? = some (.cells #[.int .u32 k.1, .int .i64 k.2] 75 (0, 0)) := (h6.keep _ (blk_lt hkey) hnb).trans hkey
  have hmk : W.heap.size ≠ mb := fun e => by rw [e] at hk2; rw [hk2] at h3; cases h3
  have hsz : W.heap.size < w1.heap.size := blk_lt hkey
  refine ⟨es, clock, h3, run_delete h4 h3 k 0, ⟨⟨mb, (putB_ne hmb).trans h1, h2.imp_right (fun h => by omega), _, clock, putB_same (blk_lt h3), (h4.without k).step (fun x cells _ hc => putB_ne (fun e => by rw [e] at hc; rw [hc] at h3; cases h3)) (fun x hx _ => hx.imp_right (fun h => by omega)), h4b.without h4.size k⟩,
    h5.step (fun x cells _ hc => putB_ne (fun e => by rw [e] at hc; rw [hc] at h3; cases h3)) (fun _ hx _ => hx), (putB_ne hmk).trans hk2, ?_⟩⟩
  exact ((Mod.of_below hb).trans (h6.mono (fun x hx => by rw [hx]; exact hown))).put (h2.imp id (fun h => by omega)) _
theorem cb_not {b : Nat} {most d : Int} {mv ov : Value} {h m : Int} {w : World} {cells : Array Value} {t : TypeId} (hb : w.heap[b]? = some (cb most d mv ov h m)) (hc : w.heap[b]? = some (.cells cells t (0, 0))) (ht : t ≠ 73) : False := by
  rw [hb] at hc
  unfold cb at hc
  injection hc with hc
  injection hc with _ hc _
  exact ht hc.symm
theorem cb_map {b : Nat} {most d : Int} {mv ov : Value} {h m : Int} {w : World} {es : Array MapEntry} {c : Nat} (hb : w.heap[b]? = some (cb most d mv ov h m)) (hc : w.heap[b]? = some (.map es c)) : False := by
  rw [hb] at hc
  unfold cb at hc
  cases hc
theorem Mid.fin {ov ov' : Value} {k : K} {W w3 w4 : World} (hh : Mid F b most ov ms k h m W w3) (hown : F b) (hone : One ms) (h1 : OrdAt F w4 ov' (keysOf (del ms k))) (h2 : Mod (fun x => F x ∧ ∃ cells, w3.heap[x]? = some (.cells cells 75 (0, 0))) w3 w4) :
    (∃ mb, w4.heap[b]? = some (cb most 1 (.map (some mb)) ov h m)) ∧ Holds (fun x => F x ∨ W.heap.size ≤ x) b most 1 (del ms k) h m (w4.setCell ⟨b, 5, none⟩ ov') ∧ Mod F W (w4.setCell ⟨b, 5, none⟩ ov') := by
  obtain ⟨⟨mb, hb, hM⟩, hO, hk, hm⟩ := hh
  have hb4 : w4.heap[b]? = some (cb most 1 (.map (some mb)) ov h m) := (h2.keep b (blk_lt hb) (fun hx => by obtain ⟨_, cells, hc⟩ := hx; exact cb_not hb hc (by decide))).trans hb
  refine ⟨⟨mb, hb4⟩, ⟨.inl hown, ⟨.map (some mb), ov', blk_put hb4 5 ov' rfl, .inr ⟨mb, rfl, rfl, hM.step (fun x o hx ho hp => ?_) (fun _ hx _ => hx)⟩, ?_⟩, hone.del k⟩, ?_⟩
  · rcases hp with ⟨es, c, rfl⟩ | ⟨cells, rfl⟩
    · exact (Below.heap_setCell _ _ _ _ (fun e => by rw [e] at ho; exact cb_map hb ho)).trans (h2.keep x (blk_lt ho) (fun hx => by obtain ⟨_, cells, hc⟩ := hx; rw [ho] at hc; cases hc))
    · exact (Below.heap_setCell _ _ _ _ (fun e => by rw [e] at ho; exact cb_not hb ho (by decide))).trans (h2.keep x (blk_lt ho) (fun hx => by obtain ⟨_, cells, hc⟩ := hx; rw [ho] at hc; injection hc with hc; injection hc with _ hc _; exact absurd hc (by decide)))
  · exact h1.step (fun x cells _ hc => Below.heap_setCell _ _ _ _ (fun e => by rw [e] at hc; exact cb_not hb4 hc (by decide))) (fun _ hx _ => .inl hx)
  · exact ((hm.trans (h2.mono (fun x hx => hx.1)))).set (.inl hown) _
set_option maxRecDepth 100000 in
set_option maxHeartbeats 1000000 in
theorem remove_any (k : K) (hh : Holds F b most d ms h m w) (hn : ms.length ≤ 1000000) (hF : ∀ x, F x → x < w.heap.size) :
    Calls Try.prog 24 #[.pointer (some ⟨b, 0, none⟩), kv k] w fun e w' => e = .returned (.tuple #[]) ∧ Holds (fun x => F x ∨ w.heap.size ≤ x) b most 1 (del ms k) h m w' ∧ Mod F w w' := by
  obtain ⟨hown, ⟨mv, ov, hb, hM, hO⟩, hone⟩ := hh
  have hlt := blk_lt hb
  have hb1 : ((w.alloc (.cells #[.int .u32 k.1, .int .i64 k.2] 75)).drew).heap[b]? = some (cb most d mv ov h m) := blk_drew (blk_alloc hb _)
  have hM1 : MapAt F ((w.alloc (.cells #[.int .u32 k.1, .int .i64 k.2] 75)).drew) d mv ms := hM.step (fun x o _ ho _ => (blk_drew (blk_alloc ho _)).trans ho.symm) (fun _ hx _ => hx)
  have hO1 : OrdAt F ((w.alloc (.cells #[.int .u32 k.1, .int .i64 k.2] 75)).drew) ov (keysOf ms) := hO.step (fun x o _ ho => (blk_drew (blk_alloc ho _)).trans ho.symm) (fun _ hx _ => hx)
  have PL := place_any hb1 hM1 hO1
  have hkey : ((w.alloc (.cells #[.int .u32 k.1, .int .i64 k.2] 75)).drew).heap[w.heap.size]? = some (.cells #[.int .u32 k.1, .int .i64 k.2] 75 (0, 0)) := blk_drew (blk_new w _)
  have k0 : ((w.alloc (.cells #[.int .u32 k.1, .int .i64 k.2] 75)).drew).cell? ⟨w.heap.size, 0, none⟩ = some (.int .u32 k.1) := (blk_cell hkey 0).trans rfl
  have k1 : ((w.alloc (.cells #[.int .u32 k.1, .int .i64 k.2] 75)).drew).cell? ⟨w.heap.size, 1, none⟩ = some (.int .i64 k.2) := (blk_cell hkey 1).trans rfl
  have MK := fun (mb : Nat) (w2 : World) (hp : PlaceS F b most ov ms h m ((w.alloc (.cells #[.int .u32 k.1, .int .i64 k.2] 75)).drew) (.returned (.map (some mb))) w2) =>
    Mid.mk' (W := w) (k := k) hown hp (((Below.refl _ _).alloc (Nat.le_refl _) _).drew) hkey (by omega) (fun h => absurd (hF _ h) (by omega))
  obtain ⟨wz, hwz⟩ : ∃ wz, wz = (w.alloc (.cells #[.int .u32 k.1, .int .i64 k.2] 75)).drew := ⟨_, rfl⟩
  rw [← hwz] at PL hkey k0 k1 MK
  have HKEY := Lib.hid hkey
  have HF := Lib.hid hF
  have HN := Lib.hid hn
  have HONE := Lib.hid hone
  have HOWN := Lib.hid hown
  have HMK := Lib.hid MK
  have HWZ := Lib.hid hwz
  have HLT := Lib.hid hlt
  clear hb hM hO hb1 hM1 hO1 hwz hkey MK hn hF hone hown hlt
  unfold kv
  go_enter Try.func24, Try.ntmps24
  go_wp2
  refine wp_region_any (by kernel_rfl) ?_
  change wpAny _ _ _ _ _ _ _ (World.drew _)
  rw [← HWZ.out]
  refine wpAny_take (i := 0) (v := ?_) rfl (by kernel_rfl) (by kernel_rfl) (by kernel_rfl) (fun _ _ _ h => h) (Or.inl ⟨by rfl, ?_⟩) ?_
  rotate_left
  · intro w; go_simp; rfl
  refine wpAny_ready (rs := [1, 2]) (by kernel_rfl) (by simp) ?_
  refine AllReady.cons rfl (fun K hK => ?_) ?_
  · go_simp
    refine PL.mono ?_
    rintro e w2 hp
    obtain ⟨mb, rfl, hp1⟩ := id hp
    obtain ⟨es, clock, hm3, hdel, MID⟩ := HMK.out mb w2 hp
    have hmod := hp1.2.2.2
    have hne : ¬ w.heap.size = b := by have := HLT.out; omega
    have j0 : w2.cell? ⟨w.heap.size, 0, none⟩ = some (.int .u32 k.1) := (blk_cell ((hmod.keep _ (blk_lt HKEY.out) hne).trans HKEY.out) 0).trans rfl
    have j1 : w2.cell? ⟨w.heap.size, 1, none⟩ = some (.int .i64 k.2) := (blk_cell ((hmod.keep _ (blk_lt HKEY.out) hne).trans HKEY.out) 1).trans rfl
    have HMID := Lib.hid MID
    clear hp hp1 hmod hne hm3 MID
    unfold kv at hdel
    refine hK _ _ ?_
    clear hK K
    refine wpAny_ready (rs := [2]) (by kernel_rfl) (by simp) ?_
    refine AllReady.cons rfl (fun K hK => ?_) AllReady.nil
    go_simp
    refine hK _ _ ?_
    clear hK K
    refine wpAny_ready (rs := [3]) (by kernel_rfl) (by simp) ?_
    refine AllReady.cons rfl (fun K hK => ?_) AllReady.nil
    go_simp
    refine hK _ _ ?_
    clear hK K
    refine wpAny_done (by kernel_rfl) ?_ _
    clear hdel
    clear j0 j1
    obtain ⟨w3, hw3⟩ : ∃ w3, w3 = putB w2 mb (Obj.map (without es ms k) clock) := ⟨_, rfl⟩
    rw [← hw3] at HMID ⊢
    clear hw3
    clear PL k0 k1 HMK HWZ wz HKEY
    obtain ⟨⟨mb3, hb3, hM3⟩, hO3, hk3, hmod3⟩ := id HMID.out
    have c5 : w3.cell? ⟨b, 5, none⟩ = some ov := (blk_cell hb3 5).trans rfl
    have DEL := del_any k w.heap.size hO3 HONE.out HN.out hk3 (fun h => absurd (HF.out _ h) (by omega))
    clear hb3 hM3 hO3 hk3 hmod3
    go_wp2_with (go_at_call 33; refine DEL.mono ?_; rintro e w4 ⟨ov', rfl, h1, h2⟩; obtain ⟨A', n', c', rfl⟩ := h1.sl; obtain ⟨⟨mb4, hb4⟩, FIN⟩ := HMID.out.fin HOWN.out HONE.out h1 h2; have HFIN := Lib.hid FIN; have d5 : w4.cell? ⟨b, 5, none⟩ = some ov := (blk_cell hb4 5).trans rfl; have f5 : w4.frozen? ⟨b, 5, none⟩ = false := blk_frozen hb4 5; clear h1 h2 hb4 FIN)
    go_end0
    exact ⟨rfl, HFIN.out⟩
  refine AllReady.cons rfl (fun K hK => ?_) AllReady.nil
  · go_simp
    refine hK _ _ ?_
    clear hK K
    refine wpAny_ready (rs := [1]) (by kernel_rfl) (by simp) ?_
    refine AllReady.cons rfl (fun K hK => ?_) AllReady.nil
    go_simp
    refine PL.mono ?_
    rintro e w2 hp
    obtain ⟨mb, rfl, hp1⟩ := id hp
    obtain ⟨es, clock, hm3, hdel, MID⟩ := HMK.out mb w2 hp
    have hmod := hp1.2.2.2
    have hne : ¬ w.heap.size = b := by have := HLT.out; omega
    have j0 : w2.cell? ⟨w.heap.size, 0, none⟩ = some (.int .u32 k.1) := (blk_cell ((hmod.keep _ (blk_lt HKEY.out) hne).trans HKEY.out) 0).trans rfl
    have j1 : w2.cell? ⟨w.heap.size, 1, none⟩ = some (.int .i64 k.2) := (blk_cell ((hmod.keep _ (blk_lt HKEY.out) hne).trans HKEY.out) 1).trans rfl
    have HMID := Lib.hid MID
    clear hp hp1 hmod hne hm3 MID
    unfold kv at hdel
    refine hK _ _ ?_
    clear hK K
    refine wpAny_ready (rs := [3]) (by kernel_rfl) (by simp) ?_
    refine AllReady.cons rfl (fun K hK => ?_) AllReady.nil
    go_simp
    refine hK _ _ ?_
    clear hK K
    refine wpAny_done (by kernel_rfl) ?_ _
    clear hdel
    clear j0 j1
    obtain ⟨w3, hw3⟩ : ∃ w3, w3 = putB w2 mb (Obj.map (without es ms k) clock) := ⟨_, rfl⟩
    rw [← hw3] at HMID ⊢
    clear hw3
    clear PL k0 k1 HMK HWZ wz HKEY
    obtain ⟨⟨mb3, hb3, hM3⟩, hO3, hk3, hmod3⟩ := id HMID.out
    have c5 : w3.cell? ⟨b, 5, none⟩ = some ov := (blk_cell hb3 5).trans rfl
    have DEL := del_any k w.heap.size hO3 HONE.out HN.out hk3 (fun h => absurd (HF.out _ h) (by omega))
    clear hb3 hM3 hO3 hk3 hmod3
    go_wp2_with (go_at_call 33; refine DEL.mono ?_; rintro e w4 ⟨ov', rfl, h1, h2⟩; obtain ⟨A', n', c', rfl⟩ := h1.sl; obtain ⟨⟨mb4, hb4⟩, FIN⟩ := HMID.out.fin HOWN.out HONE.out h1 h2; have HFIN := Lib.hid FIN; have d5 : w4.cell? ⟨b, 5, none⟩ = some ov := (blk_cell hb4 5).trans rfl; have f5 : w4.frozen? ⟨b, 5, none⟩ = false := blk_frozen hb4 5; clear h1 h2 hb4 FIN)
    go_end0
    exact ⟨rfl, HFIN.out⟩
end
end Go.Proofs.Ytnmfmcjgjjanfaa.Cache
