/- The law ImageKnown: its walk, image by image. -/
import Derived.Test.YtcjaepmecihmlaaKnown1
import Derived.Test.YtcjaepmecihmlaaBackPure
import Derived.WalkKit
import Derived.Deep.DeepCutAuto
namespace Go.Proofs.Ytcjaepmecihmlaa.Known
open Go Go.RowKit Go.Proofs.Ytcjaepmecihmlaa.Img Go.Proofs.YtcjaepmecihmlaaW.PrintWords Go.Proofs.YtcjaepmecihmlaaW.PrintLast Go.Proofs.YtcjaepmecihmlaaW.PrintMore Go.Proofs.Ytcjaepmecihmlaa.Raw
set_option linter.unusedVariables false
set_option linter.unusedSimpArgs false
/-- What is asked of at the end, and two. -/
structure S20 (W : World) (n : Ns) (w : World) (Ae : Option Addr) (ce : Nat) (v0 : Nat) (Ae2 : Option Addr) (ce2 : Nat) : Prop where
  fin : Fin W n w Ae ce
  two : w.heap[v0]? = some (vb 4096 (.slice Ae2 2 ce2))
  twoC : Kd.C k30 w Ae2 2 [(⟨4096, 8, 5, [1, 2, 3]⟩ : S30), ⟨4096, 1, 1, []⟩]
  hc2 : 2 ≤ ce2
theorem S20.later {W w w' : World} {n : Ns} {Ae : Option Addr} {ce v0 : Nat} {Ae2 : Option Addr} {ce2 : Nat} (s : S20 W n w Ae ce v0 Ae2 ce2) (hb : Below w.heap.size w w') : S20 W n w' Ae ce v0 Ae2 ce2 :=
  ⟨s.fin.later hb, blk_below s.two hb, Kd.C_below s.twoC hb, s.hc2⟩
theorem info5' : (Try.prog.info? 5).map (fun i => (i.zero, i.size, i.bytes)) = some (some (.int .u8 0), 1, 1) := by kernel_rfl
set_option maxRecDepth 100000 in
set_option maxHeartbeats 8000000 in
theorem walk (W : World) : Calls Try.prog 3 #[] W fun e w' => e = .returned (.bool true) ∧ Below W.heap.size W w' := by
  have AW := tincturelaw8_awake.calls 1000 true W Go.Proofs.Ytcjaepmecihmlaa.BackPure.awake_at
  go_enter Try.func3, Try.ntmps3
  go_wp2_with (go_at_call 8; refine AW.mono ?_; rintro e w1 ⟨rfl, hb1⟩)
  refine (small9 _).mono ?_
  rintro e w2 ⟨ga, ha, rfl, sa, la, ma, na, hb2⟩
  go_wp2_with fail
  refine (small9 _).mono ?_
  rintro e w3 ⟨gb, hb, rfl, sb, lb, mb, nb, hb3⟩
  go_wp2_with fail
  refine (small9 _).mono ?_
  rintro e w4 ⟨gc, hc, rfl, sc, lc, mc, nc, hb4⟩
  go_wp2_with fail
  refine (small9 _).mono ?_
  rintro e w5 ⟨gd, hd, rfl, sd, ld, md, nd, hb5⟩
  go_wp2_with fail
  refine (small9 _).mono ?_
  rintro e w6 ⟨ge, he, rfl, se, le_, me, ne_, hb6⟩
  unfold sl
  go_upto_region 4 with (fail)
  have E6 : Below W.heap.size W w6 := by
    have e2 := below_step hb1 hb2; have e3 := below_step e2 hb3; have e4 := below_step e3 hb4; have e5 := below_step e4 hb5
    exact below_step e5 hb6
  have q1 := hb1.size; have q2 := hb2.size; have q3 := hb3.size; have q4 := hb4.size; have q5 := hb5.size; have q6 := hb6.size
  have al : Below w6.heap.size w6 (((((w6.alloc (.cells #[.int .u32 4096, .slice (some ⟨ha, 0, none⟩) 1 1] 26)).alloc (.cells #[.int .u32 4096, .slice (some ⟨hb, 0, none⟩) 1 1] 26)).alloc (.cells #[.int .u32 4096, .slice (some ⟨hc, 0, none⟩) 1 1] 26)).alloc (.cells #[.int .u32 4096, .slice (some ⟨hd, 0, none⟩) 1 1] 26)).alloc (.cells #[.int .u32 4096, .slice (some ⟨he, 0, none⟩) 1 1] 26)) :=
    below_alloc (below_alloc (below_alloc (below_alloc (below_alloc (Below.refl _ _) _) _) _) _) _
  refine Reg.wp_open (fun w => ST W ⟨ga, ha, gb, hb, gc, hc, gd, hd, ge, he, w6.heap.size⟩ w 4096 5 (sl hc) 8) ⟨⟨by show W.heap.size ≤ ga; omega, ma, by show ha < gb; omega, mb, by show hb < gc; omega, mc, by show hc < gd; omega, md, by show hd < ge; omega, me, ne_⟩, below_step E6 al,
    ((((sa.below hb3).below hb4).below hb5).below hb6).below al, (((sb.below hb4).below hb5).below hb6).below al, (sd.below hb6).below al, se.below al,
    blk_alloc (blk_alloc (blk_alloc (blk_alloc (blk_new w6 _) _) _) _) _, blk_alloc (blk_alloc (blk_alloc (blk2 w6 _ _) _) _) _, blk_alloc (blk_alloc (blk3 w6 _ _ _) _) _, blk_alloc (blk4 w6 _ _ _ _) _, blk5 w6 _ _ _ _ _⟩ (fun wA hS => ?_)
  clear sa sb sc sd se hb1 hb2 hb3 hb4 hb5 hb6 q1 q2 q3 q4 q5 q6 al E6 la ma na lb mb nb lc mc nc ld md nd le_ me ne_ AW
  have SA := Lib.hid hS
  have c0 : wA.cell? ⟨w6.heap.size, 0, none⟩ = some (.int .u32 4096) := (blk_cell hS.va 0).trans rfl
  have f0 : wA.frozen? ⟨w6.heap.size, 0, none⟩ = false := blk_frozen hS.va 0
  clear hS
  go_upto_region 5 with (fail)
  refine Reg.wp_open (fun w => ST W ⟨ga, ha, gb, hb, gc, hc, gd, hd, ge, he, w6.heap.size⟩ w 4097 5 (sl hc) 8) (SA.out.setA 4097) (fun wB hS => ?_)
  clear SA c0 f0
  have SB := Lib.hid hS
  have c0 : wB.cell? ⟨w6.heap.size + 1, 1, none⟩ = some (.slice (some ⟨hb, 0, none⟩) 1 1) := (blk_cell hS.vbb 1).trans rfl
  have c1 : wB.cell? ⟨hb, 2, none⟩ = some (.int .i64 5) := (blk_cell hS.b.hh 2).trans rfl
  have f1 : wB.frozen? ⟨hb, 2, none⟩ = false := blk_frozen hS.b.hh 2
  clear hS
  go_upto_region 6 with (fail)
  refine Reg.wp_open (fun w => ST W ⟨ga, ha, gb, hb, gc, hc, gd, hd, ge, he, w6.heap.size⟩ w 4097 1 (sl hc) 8) (SB.out.setB 1) (fun wC hS => ?_)
  clear SB c0 c1 f1
  have SC := Lib.hid hS
  have c0 : wC.cell? ⟨w6.heap.size + 1 + 1, 1, none⟩ = some (.slice (some ⟨hc, 0, none⟩) 1 1) := (blk_cell hS.vc 1).trans rfl
  have f0 : wC.frozen? ⟨w6.heap.size + 1 + 1, 1, none⟩ = false := blk_frozen hS.vc 1
  clear hS
  go_upto_region 7 with (fail)
  refine Reg.wp_open (fun w => ST W ⟨ga, ha, gb, hb, gc, hc, gd, hd, ge, he, w6.heap.size⟩ w 4097 1 (.slice none 0 0) 8) (SC.out.setC _) (fun wD hS => ?_)
  clear SC c0 f0
  have SD := Lib.hid hS
  have c0 : wD.cell? ⟨w6.heap.size + 1 + 1 + 1, 1, none⟩ = some (.slice (some ⟨hd, 0, none⟩) 1 1) := (blk_cell hS.vd 1).trans rfl
  have c1 : wD.cell? ⟨hd, 1, none⟩ = some (.int .u32 8) := (blk_cell hS.d.hh 1).trans rfl
  have f1 : wD.frozen? ⟨hd, 1, none⟩ = false := blk_frozen hS.d.hh 1
  clear hS
  go_upto_region 8 with (fail)
  refine Reg.wp_open (fun w => ST W ⟨ga, ha, gb, hb, gc, hc, gd, hd, ge, he, w6.heap.size⟩ w 4097 1 (.slice none 0 0) 2) (SD.out.setD 2) (fun wE hS => ?_)
  clear SD c0 c1 f1
  have SE := Lib.hid hS
  have c0 : wE.cell? ⟨w6.heap.size + 1 + 1 + 1 + 1, 1, none⟩ = some (.slice (some ⟨he, 0, none⟩) 1 1) := (blk_cell hS.ve 1).trans rfl
  have hR0 := Lib.hid (one_R (base := W.heap.size) (⟨4096, 8, 5, some ⟨ge, 0, none⟩, 3, 3⟩ : Raw) hS.e.hh (by have o := hS.ord; have h0 : W.heap.size ≤ ga := o.o0; have h1 : ga < ha := o.o1; have h2 : ha < gb := o.o2; have h3 : gb < hb := o.o3; have h4 : hb < gc := o.o4; have h5 : gc < hc := o.o5; have h6 : hc < gd := o.o6; have h7 : gd < hd := o.o7; have h8 : hd < ge := o.o8; have h9 : ge < he := o.o9; show W.heap.size ≤ he; omega) (fun k => k ≠ w6.heap.size + 4) (by have h10 : he < w6.heap.size := hS.ord.o10; show he ≠ w6.heap.size + 4; omega))
  have hfr : Hid (∀ k, wE.heap.size ≤ k → k ≠ w6.heap.size + 4) := Lib.hid (fun k hk => by have h : w6.heap.size + 4 < wE.heap.size := blk_lt hS.ve; omega)
  have hn9 : Hid (some (w6.heap.size + 4) ≠ (Value.slice (some ⟨he, 0, none⟩) 1 1).ownBlock) := Lib.hid (fun e => by have h10 : he < w6.heap.size := hS.ord.o10; have : w6.heap.size + 4 = he := Option.some.inj e; omega)
  clear hS
  go_upto_region 9 with (at_builtin; refine Kd.R_append kraw (w0 := W) W.heap.size rfl (.tmp 36) (.tmp 38) 24 30 (.agg #[(.int .u32 0), (.int .u32 0), (.int .i64 0), (.slice none 0 0)]) 40 rfl Try.underlying24 info30' rfl (by decide) (by decide) (.slice (some ⟨he, 0, none⟩) 1 1) [(⟨4096, 8, 5, some ⟨ge, 0, none⟩, 3, 3⟩ : Raw)] (⟨4352, 65536, 1, none, 0, 0⟩ : Raw) (rcs ⟨4352, 65536, 1, none, 0, 0⟩) (fun k => k ≠ w6.heap.size + 4) (fun _ => False) (by first | rfl | (go_simp; rfl)) (by first | (go_simp; done) | (go_simp; rfl)) (kraw_mkM _ _ _ _) (fun _ hk => hk.elim) hfr.out hR0.out SE.out.below SE.out.below.size (by simp) ?_; intro v1 w9 hR hB9 hg9 _; have c2 : w9.cell? ⟨w6.heap.size + 1 + 1 + 1 + 1, 1, none⟩ = some (.slice (some ⟨he, 0, none⟩) 1 1) := (blk_cell (blk_grown SE.out.ve hg9 hn9.out) 1).trans rfl; have f2 : w9.frozen? ⟨w6.heap.size + 1 + 1 + 1 + 1, 1, none⟩ = false := blk_frozen (blk_grown SE.out.ve hg9 hn9.out) 1; obtain ⟨Ae, ce, rfl, FF⟩ := fin_of SE.out hg9 hB9 hR; have F0 := Lib.hid FF; clear FF hR hB9 hg9)
  refine Reg.wp_open (fun w => Fin W ⟨ga, ha, gb, hb, gc, hc, gd, hd, ge, he, w6.heap.size⟩ w Ae ce) F0.out (fun wF hF => ?_)
  clear SE c0 hR0 hfr hn9 c2 f2 F0
  have F1 := Lib.hid hF
  clear hF
  go_wp2_with (first | ((with_reducible refine gate_dst (N := 41) rfl ?_); refine Kd.R_make (Kd.int .u8) (w0 := wF) wF.heap.size 5 ?hgA (N := 41) ?hdA 28 (.const (.int .i64 100)) (.const (.int .i64 100)) rfl 100 rfl rfl Try.underlying28 (.int .u8 0) 1 info5' rfl (by decide) (by decide) (0 : Int) (ok := fun _ => True) (okp := fun _ => True) ?hzA (fun _ hk => hk) trivial (by decide) (by decide) (Below.refl _ _) (Nat.le_refl _) ?_; (case hgA => rfl); (case hdA => rfl); (case hzA => exact rfl); intro v1 w10 hRA hBA _ _))
  obtain ⟨A1, c1, rfl, hc1, hC1⟩ := made (n := 100) hRA
  refine (get_any (List.replicate 100 0) 100 (by simp) 0 [] 3 get_100 A1 c1 _ hC1 hc1).mono ?_
  rintro e w11 ⟨A2, c2, rfl, hb11⟩
  have F2 := Lib.hid ((F1.out.later hBA).later hb11)
  clear hRA hBA hc1 hC1 hb11 F1
  go_wp2_with fail
  refine (small9 _).mono ?_
  rintro e w12 ⟨gx, hx, rfl, sx, _, _, _, hb12⟩
  unfold sl
  have F3 := Lib.hid ((F2.out.later (below_alloc (Below.refl _ _) _)).later hb12)
  clear F2 hb12
  go_wp2_with fail
  refine (put_small _ hx gx sx).mono ?_
  rintro e w13 ⟨g2, c3, rfl, hR13, hb13⟩
  obtain ⟨c48, f48, lg⟩ := xr_cell hR13 48 _ rfl
  have LG := Lib.hid lg
  have h87 : 87 ≤ c3 := (xr_C hR13 (by decide)).2
  have R13 := Lib.hid hR13
  have B13 := Lib.hid hb13
  clear hR13 hb13 lg sx
  go_upto_region 13 with (fail)
  refine Reg.wp_open (fun w => Below w12.heap.size w12 w ∧ Kd.R (Kd.int .u8) 5 w w12.heap.size (fun _ => True) (.slice (some ⟨g2, 0, none⟩) 87 c3) (B87.set 48 7)) ⟨B13.out.setCell LG.out _, xr_set R13.out (by decide) 48 7⟩ (fun w14 hS => ?_)
  clear R13 B13 c48 f48
  obtain ⟨hb14, hR14⟩ := hS
  obtain ⟨c24, f24, _⟩ := xr_cell hR14 24 _ rfl
  have R14 := Lib.hid hR14
  have B14 := Lib.hid hb14
  clear hR14 hb14
  go_upto_region 14 with (fail)
  refine Reg.wp_open (fun w => Below w12.heap.size w12 w ∧ Kd.R (Kd.int .u8) 5 w w12.heap.size (fun _ => True) (.slice (some ⟨g2, 0, none⟩) 87 c3) ((B87.set 48 7).set 24 4)) ⟨B14.out.setCell LG.out _, xr_set R14.out (by decide) 24 4⟩ (fun w15 hS => ?_)
  clear R14 B14 c24 f24
  have R15 := Lib.hid hS.2
  have B15 := Lib.hid hS.1
  clear hS
  go_upto_region 15 with (go_at_call 10; refine (get_any ((B87.set 48 7).set 24 4) 87 (by decide) 4100 [(⟨4096, 8, 5, [1, 2, 3]⟩ : S30)] 0 get_x (some ⟨g2, 0, none⟩) c3 _ (xr_C R15.out (by decide)).1 h87).mono ?_; rintro e w16 ⟨A3, c4, rfl, hb16⟩; have B16 := Lib.hid hb16; clear hb16)
  have bal := Lib.hid (below_alloc (Below.refl w16.heap.size w16) (.cells #[.int .u32 4100, .slice A3 [(⟨4096, 8, 5, [1, 2, 3]⟩ : S30)].length c4] 26))
  refine Reg.wp_open (fun w => Below w12.heap.size w12 w ∧ Kd.R (Kd.int .u8) 5 w w12.heap.size (fun _ => True) (.slice (some ⟨g2, 0, none⟩) 87 c3) ((B87.set 48 7).set 24 4)) ⟨below_step (below_step B15.out B16.out) bal.out, Kd.R_below (Kd.R_below R15.out B16.out) bal.out⟩ (fun w17 hS => ?_)
  clear R15 B15 B16 bal
  obtain ⟨hb17, hR17⟩ := hS
  obtain ⟨c44, f44, _⟩ := xr_cell hR17 44 _ rfl
  have R17 := Lib.hid hR17
  have B17 := Lib.hid hb17
  clear hR17 hb17
  go_upto_region 16 with (fail)
  refine Reg.wp_open (fun w => Below w12.heap.size w12 w ∧ Kd.R (Kd.int .u8) 5 w w12.heap.size (fun _ => True) (.slice (some ⟨g2, 0, none⟩) 87 c3) (((B87.set 48 7).set 24 4).set 44 9)) ⟨B17.out.setCell LG.out _, xr_set R17.out (by decide) 44 9⟩ (fun w18 hS => ?_)
  clear R17 B17 c44 f44
  have R18 := Lib.hid hS.2
  have B18 := Lib.hid hS.1
  clear hS
  go_wp2_with fail
  refine (get_any (((B87.set 48 7).set 24 4).set 44 9) 87 (by decide) 0 [] 2 get_9 (some ⟨g2, 0, none⟩) c3 _ (xr_C R18.out (by decide)).1 h87).mono ?_
  rintro e w19 ⟨A5, c5, rfl, hb19⟩
  have F4 := Lib.hid ((F3.out.later B18.out).later hb19)
  clear R18 B18 hb19 F3 LG h87
  have F5 := fun o => F4.out.later (below_alloc (Below.refl w19.heap.size w19) o)
  have F6 := Lib.hid F5
  clear F5 F4
  go_upto_region 17 with (fail)
  refine Reg.wp_open (fun w => Fin W ⟨ga, ha, gb, hb, gc, hc, gd, hd, ge, he, w6.heap.size⟩ w Ae ce) (F6.out _) (fun wG hF => ?_)
  clear F6
  have F7 := Lib.hid hF
  clear hF
  go_wp2_with (first | ((with_reducible refine gate_dst (N := 69) rfl ?_); refine Kd.R_make (Kd.int .u8) (w0 := wG) wG.heap.size 5 ?hgB (N := 69) ?hdB 28 (.const (.int .i64 65537)) (.const (.int .i64 65537)) rfl 65537 rfl rfl Try.underlying28 (.int .u8 0) 1 info5' rfl (by decide) (by decide) (0 : Int) (ok := fun _ => True) (okp := fun _ => True) ?hzB (fun _ hk => hk) trivial (by decide) (by decide) (Below.refl _ _) (Nat.le_refl _) ?_; (case hgB => rfl); (case hdB => rfl); (case hzB => exact rfl); intro v2 w20 hRB hBB _ _))
  obtain ⟨A6, c6, rfl, hc6, hC6⟩ := made (n := 65537) hRB
  refine (get_any (List.replicate 65537 0) 65537 (List.length_replicate ..) 0 [] 2 get_great A6 c6 _ hC6 hc6).mono ?_
  rintro e w21 ⟨A7, c7, rfl, hb21⟩
  have F8 := Lib.hid ((F7.out.later hBB).later hb21)
  clear hRB hBB hc6 hC6 hb21 F7
  go_wp2_with fail
  refine (small9 _).mono ?_
  rintro e w22 ⟨gt, ht, rfl, st, lt_, mt, nt, hb22⟩
  unfold sl
  have F9 := Lib.hid (F8.out.later (below_alloc (Below.refl _ _) (.cells #[.int .u32 0, .slice A7 0 c7] 26)))
  clear F8
  obtain ⟨wP, hwP⟩ : ∃ wP : World, w21.alloc (.cells #[.int .u32 0, .slice A7 0 c7] 26) = wP := ⟨_, rfl⟩
  rw [hwP] at F9 lt_ hb22
  clear hwP
  have BP := Lib.hid hb22
  have ST_ := Lib.hid st
  have LT := Lib.hid lt_
  clear st hb22 lt_
  go_upto_region 19 with (fail)
  refine Reg.wp_open (fun w => Below wP.heap.size wP w ∧ Seg w ht gt 4096 8 5 ∧ w.heap[w22.heap.size]? = some (vb 4096 (sl ht))) ⟨below_alloc BP.out _, ST_.out.below (below_alloc (Below.refl _ _) _), blk_new w22 _⟩ (fun wT hS => ?_)
  obtain ⟨hbT, sT, vT⟩ := hS
  have c0 : wT.cell? ⟨w22.heap.size, 1, none⟩ = some (.slice (some ⟨ht, 0, none⟩) 1 1) := (blk_cell vT 1).trans rfl
  have hR1 := Lib.hid (one_R (base := wP.heap.size) (⟨4096, 8, 5, some ⟨gt, 0, none⟩, 3, 3⟩ : Raw) sT.hh (by have := LT.out; omega) (fun k => k ≠ w22.heap.size) (by show ht ≠ w22.heap.size; omega))
  have hfr : Hid (∀ k, wT.heap.size ≤ k → k ≠ w22.heap.size) := Lib.hid (fun k hk => by have h : w22.heap.size < wT.heap.size := blk_lt vT; omega)
  have hn9 : Hid (some w22.heap.size ≠ (Value.slice (some ⟨ht, 0, none⟩) 1 1).ownBlock) := Lib.hid (fun e => by have : w22.heap.size = ht := Option.some.inj e; omega)
  have BT := Lib.hid hbT
  have SS := Lib.hid sT
  have VT := Lib.hid vT
  have WP : Hid (wP.heap.size ≤ w22.heap.size) := Lib.hid BP.out.size
  clear hbT sT vT BP ST_
  go_upto_region 20 with (at_builtin; refine Kd.R_append kraw (w0 := wP) wP.heap.size rfl (.tmp 75) (.tmp 77) 24 30 (.agg #[(.int .u32 0), (.int .u32 0), (.int .i64 0), (.slice none 0 0)]) 40 rfl Try.underlying24 info30' rfl (by decide) (by decide) (.slice (some ⟨ht, 0, none⟩) 1 1) [(⟨4096, 8, 5, some ⟨gt, 0, none⟩, 3, 3⟩ : Raw)] (⟨4096, 1, 1, none, 0, 0⟩ : Raw) (rcs ⟨4096, 1, 1, none, 0, 0⟩) (fun k => k ≠ w22.heap.size) (fun _ => False) (by first | rfl | (go_simp; rfl)) (by first | (go_simp; done) | (go_simp; rfl)) (kraw_mkM _ _ _ _) (fun _ hk => hk.elim) hfr.out hR1.out BT.out BT.out.size (by simp) ?_; intro v3 w23 hR hB9 hg9 _; have c2 : w23.cell? ⟨w22.heap.size, 1, none⟩ = some (.slice (some ⟨ht, 0, none⟩) 1 1) := (blk_cell (blk_grown VT.out hg9 hn9.out) 1).trans rfl; have f2 : w23.frozen? ⟨w22.heap.size, 1, none⟩ = false := blk_frozen (blk_grown VT.out hg9 hn9.out) 1; obtain ⟨Ae2, ce2, rfl, hc2, hv2, hC2⟩ := two_of SS.out VT.out (by omega) (by omega) (by omega) hg9 hR; have FE : Hid (S20 W ⟨ga, ha, gb, hb, gc, hc, gd, hd, ge, he, w6.heap.size⟩ (w23.setCell ⟨w22.heap.size, 1, none⟩ (.slice Ae2 2 ce2)) Ae ce w22.heap.size Ae2 ce2) := Lib.hid ⟨F9.out.later (hB9.setCell WP.out _), hv2, hC2, hc2⟩; clear hR hB9 hg9 hc2 hv2 hC2)
  refine Reg.wp_open (fun w => S20 W ⟨ga, ha, gb, hb, gc, hc, gd, hd, ge, he, w6.heap.size⟩ w Ae ce w22.heap.size Ae2 ce2) FE.out (fun y0 hS => ?_)
  clear FE c0 hR1 hfr hn9 BT SS VT WP LT c2 f2 F9
  have T0 := Lib.hid hS
  clear hS
  have d0 : y0.cell? ⟨w6.heap.size, 0, none⟩ = some (.int .u32 4097) := (blk_cell T0.out.fin.va 0).trans rfl
  have d1 : y0.cell? ⟨w6.heap.size, 1, none⟩ = some (.slice (some ⟨ha, 0, none⟩) 1 1) := (blk_cell T0.out.fin.va 1).trans rfl
  go_wp2_with fail
  refine (image_Good.calls 1000 4097 (some ⟨ha, 0, none⟩) 1 [(⟨4096, 8, 5, [1, 2, 3]⟩ : S30)] 1 _ T0.out.fin.a (Nat.le_refl _) good_a).mono ?_
  rintro e y1 ⟨rfl, hb⟩
  have T1 := Lib.hid (T0.out.later hb)
  clear hb d0 d1
  have d0 : y1.cell? ⟨w6.heap.size + 1, 0, none⟩ = some (.int .u32 4096) := (blk_cell T1.out.fin.vbb 0).trans rfl
  have d1 : y1.cell? ⟨w6.heap.size + 1, 1, none⟩ = some (.slice (some ⟨hb, 0, none⟩) 1 1) := (blk_cell T1.out.fin.vbb 1).trans rfl
  go_wp2_with fail
  refine (image_Good.calls 1000 4096 (some ⟨hb, 0, none⟩) 1 [(⟨4096, 8, 1, [1, 2, 3]⟩ : S30)] 1 _ T1.out.fin.b (Nat.le_refl _) good_b).mono ?_
  rintro e y2 ⟨rfl, hb⟩
  have T2 := Lib.hid (T1.out.later hb)
  clear hb d0 d1
  have d0 : y2.cell? ⟨w6.heap.size + 1 + 1, 0, none⟩ = some (.int .u32 4096) := (blk_cell T2.out.fin.vc 0).trans rfl
  have d1 : y2.cell? ⟨w6.heap.size + 1 + 1, 1, none⟩ = some (.slice none 0 0) := (blk_cell T2.out.fin.vc 1).trans rfl
  go_wp2_with fail
  refine (image_Good.calls 1000 4096 none 0 ([] : List S30) 1 _ ⟨rfl, by simp, fun h => absurd h (by simp)⟩ (Nat.le_refl _) good_c).mono ?_
  rintro e y3 ⟨rfl, hb⟩
  have T3 := Lib.hid (T2.out.later hb)
  clear hb d0 d1
  have d0 : y3.cell? ⟨w6.heap.size + 1 + 1 + 1, 0, none⟩ = some (.int .u32 4096) := (blk_cell T3.out.fin.vd 0).trans rfl
  have d1 : y3.cell? ⟨w6.heap.size + 1 + 1 + 1, 1, none⟩ = some (.slice (some ⟨hd, 0, none⟩) 1 1) := (blk_cell T3.out.fin.vd 1).trans rfl
  go_wp2_with fail
  refine (image_Good.calls 1000 4096 (some ⟨hd, 0, none⟩) 1 [(⟨4096, 2, 5, [1, 2, 3]⟩ : S30)] 1 _ T3.out.fin.d (Nat.le_refl _) good_d).mono ?_
  rintro e y4 ⟨rfl, hb⟩
  have T4 := Lib.hid (T3.out.later hb)
  clear hb d0 d1
  have d0 : y4.cell? ⟨w6.heap.size + 1 + 1 + 1 + 1, 0, none⟩ = some (.int .u32 4096) := (blk_cell T4.out.fin.ve 0).trans rfl
  have d1 : y4.cell? ⟨w6.heap.size + 1 + 1 + 1 + 1, 1, none⟩ = some (.slice Ae 2 ce) := (blk_cell T4.out.fin.ve 1).trans rfl
  go_wp2_with fail
  refine (image_Good.calls 1000 4096 Ae ce [(⟨4096, 8, 5, [1, 2, 3]⟩ : S30), ⟨4352, 65536, 1, []⟩] 2 _ T4.out.fin.e T4.out.fin.hce good_e).mono ?_
  rintro e y5 ⟨rfl, hb⟩
  have T5 := Lib.hid (T4.out.later hb)
  clear hb d0 d1
  have d0 : y5.cell? ⟨w22.heap.size, 0, none⟩ = some (.int .u32 4096) := (blk_cell T5.out.two 0).trans rfl
  have d1 : y5.cell? ⟨w22.heap.size, 1, none⟩ = some (.slice Ae2 2 ce2) := (blk_cell T5.out.two 1).trans rfl
  go_wp2_with fail
  refine (image_Good.calls 1000 4096 Ae2 ce2 [(⟨4096, 8, 5, [1, 2, 3]⟩ : S30), ⟨4096, 1, 1, []⟩] 1 _ T5.out.twoC T5.out.hc2 good_two).mono ?_
  rintro e y6 ⟨rfl, hb⟩
  have T6 := Lib.hid (T5.out.later hb)
  clear hb d0 d1
  go_wp2
  go_ret
  exact ⟨rfl, T6.out.fin.below⟩
end Go.Proofs.Ytcjaepmecihmlaa.Known
