/- Several of this session's texts as one. -/
import Derived.Test.YtnmfmcjgjjanfaaDropsP
import Derived.Test.YtnmfmcjgjjanfaaPlainN
namespace Go.Proofs.Ytnmfmcjgjjanfaa.Cache
open Go Go.RowKit Go.Proofs.YtnmfmcjgjjanfaaW.PrintWords Go.Proofs.YtnmfmcjgjjanfaaW.PrintLast Go.Proofs.YtnmfmcjgjjanfaaW.PrintMore Go.Proofs.Ytnmfmcjgjjanfaa.Pr Go.Proofs.Ytnmfmcjgjjanfaa.Lits
set_option linter.unusedVariables false
set_option linter.unusedSimpArgs false
def rk (e : En) : S91 := ⟨e.1.1, e.1.2, e.2.1, refs e.2.2⟩
def rows (ms : List En) : List S91 := ms.map rk
def rb (most : Int) (ov : Value) (h m : Int) : Obj := .cells #[.int .i64 most, ov, .int .i64 h, .int .i64 m] 49 (0, 0)
/-- The reference's cache at b holds ms; its blocks are in P. -/
def Ref (P : Nat → Prop) (b : Nat) (most : Int) (ms : List En) (h m : Int) (w : World) : Prop := P b ∧ ∃ ov, w.heap[b]? = some (rb most ov h m) ∧ Kd.R k91 91 w 0 P ov (rows ms)
section
variable {P P' : Nat → Prop} {w w1 : World} {b : Nat} {most h m : Int} {ms : List En} {ov : Value}
theorem rows_len (ms : List En) : (rows ms).length = ms.length := by simp [rows]
theorem Ref.step (hh : Ref P b most ms h m w) (hm : ∀ x, P x → x < w.heap.size → w1.heap[x]? = w.heap[x]?) (hP : ∀ x, P x → x < w.heap.size → P' x) : Ref P' b most ms h m w1 := by
  obtain ⟨h1, ov, h2, h3⟩ := hh
  have h4 : Kd.R k91 91 w1 0 P ov (rows ms) := Kd.R_step h3 hm
  have h5 : Kd.R k91 91 w 0 (fun k => P k ∧ k < w.heap.size) ov (rows ms) := Kd.R_mono (Kd.R_bound h3) (fun k hk => ⟨hk.1, hk.2.2.1⟩)
  exact ⟨hP b h1 (blk_lt h2), ov, (hm b h1 (blk_lt h2)).trans h2, Kd.R_mono (Kd.R_step h5 (fun k hk hl => hm k hk.1 hl)) (fun k hk => hP k hk.1 hk.2)⟩
theorem Ref.below (hh : Ref P b most ms h m w) (hb : Below w.heap.size w w1) : Ref P b most ms h m w1 := hh.step (fun x _ hl => hb.block x hl) (fun _ hx _ => hx)
theorem Ref.mono (hh : Ref P b most ms h m w) (hP : ∀ x, P x → x < w.heap.size → P' x) : Ref P' b most ms h m w := hh.step (fun _ _ _ => rfl) hP
theorem Ref.mod {S : Nat → Prop} (hh : Ref P b most ms h m w) (hb : Mod S w w1) (hs : ∀ k, P k → ¬ S k) : Ref P b most ms h m w1 := hh.step (fun x hx hl => hb.keep x hl (hs x hx)) (fun _ hx _ => hx)
theorem row91 (hr : Kd.R k91 91 w 0 P ov (rows ms)) : ∃ A c, ov = .slice A ms.length c ∧ ms.length ≤ c ∧ Kd.C k91 w A ms.length (rows ms) := by
  obtain ⟨A, c, h1, h2, h3⟩ := Kd.R_reads hr
  rw [rows_len] at h1 h2 h3
  exact ⟨A, c, h1, h2, h3⟩
theorem cells91 {A : Option Addr} (hr : Kd.C k91 w A ms.length (rows ms)) (q : Nat) (hq : q < ms.length) :
    ∃ ad A3 c3, A = some ad ∧ w.cell? (ad.add (q * 4)) = some (.int .u32 ms[q].1.1) ∧ w.cell? ⟨(ad.add (q * 4)).block, (ad.add (q * 4)).off + 1, none⟩ = some (.int .i64 ms[q].1.2) ∧ w.cell? ⟨(ad.add (q * 4)).block, (ad.add (q * 4)).off + 2, none⟩ = some (.int .u32 ms[q].2.1) ∧
      w.cell? ⟨(ad.add (q * 4)).block, (ad.add (q * 4)).off + 3, none⟩ = some (.slice A3 ms[q].2.2.length c3) ∧ ms[q].2.2.length ≤ c3 ∧ k83.C w A3 ms[q].2.2.length (refs ms[q].2.2) := by
  obtain ⟨ad, A3, c3, h0, h1, h2, h3, h4, h5, h6⟩ := at_T91 hr (q : Int) (by omega) (by omega)
  have e : rd_T91 (rows ms) (q : Int) = rk ms[q] := by
    unfold rd_T91 rows
    simp [hq]
  rw [e] at h1 h2 h3 h4 h5 h6
  have l : (rk ms[q]).f3.length = ms[q].2.2.length := by simp [rk, refs]
  rw [l] at h4 h5 h6
  exact ⟨ad, A3, c3, h0, h1, h2, h3, h4, h5, h6⟩
set_option maxRecDepth 100000 in
set_option maxHeartbeats 1000000 in
theorem ref_at (k : K) (hh : Ref P b most ms h m w) (hn : ms.length ≤ 1000) :
    Calls Try.prog 31 #[.pointer (some ⟨b, 0, none⟩), .int .u32 k.1, .int .i64 k.2] w fun e w' => e = .returned (.int .i64 (idxOf (keysOf ms) k)) ∧ w = w' := by
  obtain ⟨_, ov, h2, h3⟩ := hh
  obtain ⟨A, c, rfl, h4, h5⟩ := row91 h3
  have c1 : w.cell? ⟨b, 1, none⟩ = some (.slice A ms.length c) := (blk_cell h2 1).trans rfl
  have HC := Lib.hid h5
  clear h2 h3 h4 h5
  go_enter Try.func31, Try.ntmps31
  go_wp2
  go_loopw [7] (fun i wr => ∃ q : Nat, q ≤ ms.length ∧ i = .int .i64 q ∧ (∀ (a : Nat) (y : K), a < q → (keysOf ms)[a]? = some y → kB y k = false) ∧ wr = w) (fun i _ => ms.length - (intOf i).toNat)
  case atStart => exact ⟨0, Nat.zero_le _, rfl, fun a y ha => absurd ha (Nat.not_lt_zero _), rfl⟩
  case round =>
    obtain ⟨q, hq, rfl, hp, rfl⟩ := hrel
    by_cases hlt : q < ms.length
    · obtain ⟨ad, A3, c3, rfl, g0, g1, g2, g3, _, _⟩ := cells91 HC.out q hlt
      have hkq : (keysOf ms)[q]? = some ms[q].1 := by simp [keysOf, hlt]
      have HP := Lib.hid hp
      have HK := Lib.hid hkq
      clear hp hkq
      have hnext : kB ms[q].1 k = false → ∀ (a : Nat) (y : K), a < q + 1 → (keysOf ms)[a]? = some y → kB y k = false := by
        intro h0 a y ha hy
        by_cases haq : a = q
        · rw [haq, HK.out] at hy
          rw [← Option.some.inj hy]
          exact h0
        · exact HP.out a y (by omega) hy
      have HX := Lib.hid hnext
      clear hnext
      by_cases e1 : ms[q].1.1 = k.1
      · by_cases e2 : ms[q].1.2 = k.2
        · go_wp2
          go_ret
          exact ⟨by rw [idx_at _ k q _ HK.out ((kB_iff _ _).2 (Prod.ext e1 e2)) HP.out]; rfl, rfl⟩
        · have HY := Lib.hid (HX.out (by unfold kB; simp [e2]))
          go_wp2
          go_roundw
          case rel => exact ⟨q + 1, by omega, by go_num, HY.out, by first | trivial | rfl⟩
          case measure => simp [intOf]; omega
      · have HY := Lib.hid (HX.out (by unfold kB; simp [e1]))
        go_wp2
        go_roundw
        case rel => exact ⟨q + 1, by omega, by go_num, HY.out, by first | trivial | rfl⟩
        case measure => simp [intOf]; omega
    · have hqe : q = ms.length := by omega
      have hno := idx_no (keysOf ms) k (fun a y hy => hp a y (by have := (List.getElem?_eq_some_iff.1 hy).1; simp [keysOf] at this; omega) hy)
      have HNO := Lib.hid hno
      clear hp hno
      go_wp2
      go_ret
      exact ⟨by rw [HNO.out]; rfl, rfl⟩
set_option maxRecDepth 100000 in
theorem ref_len (hh : Ref P b most ms h m w) : Calls Try.prog 23 #[.pointer (some ⟨b, 0, none⟩)] w fun e w' => e = .returned (.int .i64 ms.length) ∧ w = w' := by
  obtain ⟨_, ov, h2, h3⟩ := hh
  obtain ⟨A, c, rfl, h4, h5⟩ := row91 h3
  have c1 : w.cell? ⟨b, 1, none⟩ = some (.slice A ms.length c) := (blk_cell h2 1).trans rfl
  clear h2 h3 h4 h5
  go_enter Try.func23, Try.ntmps23
  go_wp2
  go_ret
  exact ⟨rfl, rfl⟩
set_option maxRecDepth 100000 in
theorem ref_clear (hh : Ref P b most ms h m w) : Calls Try.prog 22 #[.pointer (some ⟨b, 0, none⟩)] w fun e w' => e = .returned (.tuple #[]) ∧ Ref P b most [] h m w' ∧ Mod P w w' := by
  obtain ⟨h1, ov, h2, h3⟩ := hh
  have c1 : w.cell? ⟨b, 1, none⟩ = some ov := (blk_cell h2 1).trans rfl
  have f1 : w.frozen? ⟨b, 1, none⟩ = false := blk_frozen h2 1
  have HX : Hid (Ref P b most [] h m (w.setCell ⟨b, 1, none⟩ (.slice none 0 0)) ∧ Mod P w (w.setCell ⟨b, 1, none⟩ (.slice none 0 0))) :=
    Lib.hid ⟨⟨h1, _, blk_put h2 1 _ rfl, Kd.R_nil _ _ _ _ _⟩, (Mod.refl P w).set (.inl h1) _⟩
  clear h1 h2 h3
  go_enter Try.func22, Try.ntmps22
  go_wp2
  go_end0
  exact ⟨rfl, HX.out⟩
end
theorem info91 : (Try.prog.info? 91).map (fun i => (i.zero, i.size, i.bytes)) = some (some (.agg #[.int .u32 0, .int .i64 0, .int .u32 0, .slice none 0 0]), 4, 48) := by kernel_rfl
/-- What is of P and stood in w. -/
def Old (P : Nat → Prop) (w : World) : Nat → Prop := fun k => P k ∧ k < w.heap.size
section
variable {P : Nat → Prop} {w w1 w2 w3 : World} {b : Nat} {most h m : Int} {ms : List En} {ov : Value}
section
variable {α : Type} {R : α → List Value → Prop} {size : Nat} {A : Option Addr} {xs : List α}
theorem reads_take (h : ReadsRow R size w A xs.length xs) (m : Nat) (hm : m ≤ xs.length) : ReadsRow R size w A m (xs.take m) := by
  have hl : (xs.take m).length = m := by rw [List.length_take]; omega
  refine ⟨hl, by have := h.2.1; omega, fun hp => ?_⟩
  obtain ⟨ad, e, hc⟩ := h.2.2 (by omega)
  refine ⟨ad, e, fun j p hj => hc j p ?_⟩
  rw [List.getElem?_take] at hj
  split at hj
  · exact hj
  · cases hj
theorem reads_drop {ad : Addr} {c : Nat} (h : ReadsRow R size w (some ad) xs.length xs) (m : Nat) (hm : m ≤ xs.length) (hc : xs.length ≤ c) : ReadsRow R size w (if c = m then some ad else some (ad.add (m * size))) (xs.length - m) (xs.drop m) := by
  have hl : (xs.drop m).length = xs.length - m := List.length_drop
  refine ⟨hl, by have := h.2.1; omega, fun hp => ?_⟩
  obtain ⟨ad', e, hcell⟩ := h.2.2 (by omega)
  cases e
  rw [if_neg (by omega)]
  refine ⟨ad.add (m * size), rfl, fun j p hj => ?_⟩
  rw [List.getElem?_drop] at hj
  obtain ⟨cs, h1, h2, h3⟩ := hcell (m + j) p hj
  refine ⟨cs, h1, h2, fun i u hu => ?_⟩
  rw [add_add, show m * size + (j * size + i) = (m + j) * size + i by rw [Nat.add_mul]; omega]
  exact h3 i u hu
end
theorem rows_cut (i : Nat) : (rows ms).take i ++ (rows ms).drop (i + 1) = rows (ms.eraseIdx i) := by
  unfold rows
  rw [← List.eraseIdx_eq_take_drop_succ, map_eraseIdx']
theorem Kd_lit (F : Nat → Prop) (hF : F w.heap.size) : Kd.R k91 91 (w.alloc (.cells #[] 91)) 0 F (.slice (some ⟨w.heap.size, 0, none⟩) 0 0) [] :=
  ⟨fun k hk => by simp [Value.ownBlock] at hk; rw [← hk]; exact hF, [], by simpa using World.ownsRow_lit (base := 0) (e := 91) (size := k91.sz) w #[] 0 (Nat.zero_le _) (by decide) (by simp), Reps.none _ _⟩
theorem old_ne {v : Value} (hv : ∀ k, v.ownBlock = some k → w.heap.size ≤ k) : ∀ k, Old P w k → P k ∧ some k ≠ v.ownBlock := fun k hk => ⟨hk.1, fun e => by have := hv k e.symm; have := hk.2; omega⟩
/-- A row behind w has grown: what stood in w stands. -/
theorem grew {v v1 : Value} (hb : Below w.heap.size w w1) (hv : ∀ k, v.ownBlock = some k → w.heap.size ≤ k) (hg : w1.grownBy w2 v.ownBlock) (ha : v1.ownBlock = v.ownBlock ∨ ∃ b, v1.ownBlock = some b ∧ w1.heap.size ≤ b) :
    Below w.heap.size w w2 ∧ ∀ k, v1.ownBlock = some k → w.heap.size ≤ k := by
  refine ⟨⟨hg.os.trans hb.os, hg.tape.trans hb.tape, hg.output.trans hb.output, Nat.le_trans hb.size hg.size, fun k hk => ?_⟩, fun k hk => ?_⟩
  · rw [hg.block k (Nat.lt_of_lt_of_le hk hb.size) (fun e => by have := hv k e.symm; omega)]
    exact hb.block k hk
  · rcases ha with ha | ⟨b, ha, hl⟩
    · exact hv k (by rw [← ha]; exact hk)
    · rw [ha] at hk
      injection hk with hk
      have := hb.size
      omega
/-- The rows of a row of one's own, as they stand. -/
theorem rowM {ad : Addr} {n c : Nat} (hr : Kd.R k91 91 w 0 P (.slice (some ad) n c) (rows ms)) : ReadsRow (k91.M w 0 P) 4 w (some ad) (rows ms).length (rows ms) := by
  obtain ⟨A, c', e, _, h⟩ := OwnRow.reads hr.2
  cases e
  exact h.imp_ (Below.refl _ _) (fun _ _ hp => k91.M_mono (fun k hk => hk.1) hp)
set_option maxRecDepth 100000 in
set_option maxHeartbeats 2000000 in
theorem ref_remove (i : Nat) (hi : i < ms.length) (hh : Ref P b most ms h m w) (hu : Up P w) (hn : ms.length ≤ 1001) :
    Calls Try.prog 32 #[.pointer (some ⟨b, 0, none⟩), .int .i64 i] w fun e w' => e = .returned (.tuple #[]) ∧ Ref P b most (ms.eraseIdx i) h m w' ∧ Mod P w w' := by
  obtain ⟨h1, ov, h2, h3⟩ := hh
  obtain ⟨A, c, rfl, h4, h5⟩ := row91 h3
  obtain ⟨ad, rfl⟩ : ∃ ad, A = some ad := by obtain ⟨ad, _, _, e, _⟩ := cells91 h5 i hi; exact ⟨ad, e⟩
  have hold : Kd.R k91 91 w 0 (Old P w) (.slice (some ad) ms.length c) (rows ms) := Kd.R_mono (Kd.R_bound h3) (fun k hk => ⟨hk.1, hk.2.2.1⟩)
  have hz := blk_lt h2
  have HC : Hid (∀ w', Below w.heap.size w w' → w'.cell? ⟨b, 1, none⟩ = some (.slice (some ad) ms.length c)) := Lib.hid (fun w' hb => (blk_cell ((hb.block b hz).trans h2) 1).trans rfl)
  have HZ : Hid (∀ w', Below w.heap.size w w' → w'.frozen? ⟨b, 1, none⟩ = false) := Lib.hid (fun w' hb => blk_frozen ((hb.block b hz).trans h2) 1)
  have HR : Hid (∀ w', Below w.heap.size w w' → ReadsRow (k91.M w' 0 (Old P w)) 4 w' (some ad) (rows ms).length (rows ms)) := Lib.hid (fun w' hb => rowM (Kd.R_step hold (fun k hk hl => hb.block k hl)))
  have HUP := Lib.hid hu
  have HB : Hid (Below w.heap.size w w.drew) := Lib.hid (below_drew (Below.refl _ _))
  have HEND : Hid (∀ (w' : World) (v : Value), Below w.heap.size w w' → Kd.R k91 91 w' 0 P v (rows (ms.eraseIdx i)) → Ref P b most (ms.eraseIdx i) h m (w'.setCell ⟨b, 1, none⟩ v) ∧ Mod P w (w'.setCell ⟨b, 1, none⟩ v)) := by
    refine Lib.hid (fun w' v hb hr => ?_)
    have hblk : w'.heap[b]? = some (rb most (.slice (some ad) ms.length c) h m) := (hb.block b hz).trans h2
    exact ⟨⟨h1, _, blk_put hblk 1 _ rfl, Kd.R_set hr hblk (by decide) 1 v⟩, (Mod.of_below hb).set (.inl h1) _⟩
  have c1 : w.drew.cell? ⟨b, 1, none⟩ = some (.slice (some ad) ms.length c) := HC.out _ HB.out
  have e1 : IntKind.i64.wrap ((i : Int) + 1) = (i : Int) + 1 := IntWalk.i64_in _ (by omega)
  have b1 : (0 : Int) ≤ (i : Int) := by omega
  have b2 : (i : Int) ≤ (ms.length : Int) := by omega
  have b3 : (i : Int) + 1 ≤ (ms.length : Int) := by omega
  have b4 : (0 : Int) ≤ (i : Int) + 1 := by omega
  have b6 : i ≤ c := by omega
  have b7 : i ≤ ms.length := by omega
  have b8 : i + 1 ≤ ms.length := by omega
  have b9 : ms.length ≤ c := h4
  have b5 : ((i : Int) + 1).toNat = i + 1 := by omega
  clear h1 h2 h3 h5 hold hz hu
  go_enter Try.func32, Try.ntmps32
  refine start_ (n := 20) (S := fun w' => w'.cell? ⟨b, 1, none⟩ = some (.slice (some ad) ms.length c)) (ds := [19]) #[false, false, false, false, false, false, false, false, false, false, false, false, false, false, false, false, false, false, false, false] (by kernel_rfl) rfl rfl (c1) (fun hHeld => ?_)
  refine pure_ (i := 0) (N := some 4) (v := ?_) (a' := ?_) #[true, false, false, false, false, false, false, false, false, false, false, false, false, false, false, false, false, false, false, false] rfl rfl (by kernel_rfl) (fun _ _ _ h => h) (Or.inl ⟨by rfl, ?_⟩) ?_ ?_
  rotate_left
  · intro w'
    go_simp
    with_reducible rfl
  rotate_left
  · simp only [Act.put, List.setIfInBounds_toArray, List.set_cons_zero, List.set_cons_succ, i64_w, i32_w]
    rfl
  refine pure_ (i := 2) (N := some 6) (v := ?_) (a' := ?_) #[true, false, true, false, false, false, false, false, false, false, false, false, false, false, false, false, false, false, false, false] rfl rfl (by kernel_rfl) (fun _ _ _ h => h) (Or.inl ⟨by rfl, ?_⟩) ?_ ?_
  rotate_left
  · intro w'
    go_simp
    with_reducible rfl
  rotate_left
  · simp only [Act.put, List.setIfInBounds_toArray, List.set_cons_zero, List.set_cons_succ, i64_w, i32_w]
    rfl
  refine pure_ (i := 3) (N := some 7) (v := ?_) (a' := ?_) #[true, false, true, true, false, false, false, false, false, false, false, false, false, false, false, false, false, false, false, false] rfl rfl (by kernel_rfl) (fun _ _ _ h => h) (Or.inl ⟨by rfl, ?_⟩) ?_ ?_
  rotate_left
  · intro w'
    go_simp
    with_reducible rfl
  rotate_left
  · simp only [Act.put, List.setIfInBounds_toArray, List.set_cons_zero, List.set_cons_succ, i64_w, i32_w]
    rfl
  refine pure_ (i := 4) (N := some 8) (v := ?_) (a' := ?_) #[true, false, true, true, true, false, false, false, false, false, false, false, false, false, false, false, false, false, false, false] rfl rfl (by kernel_rfl) (fun _ _ _ h => h) (Or.inl ⟨by rfl, ?_⟩) ?_ ?_
  rotate_left
  · intro w'
    go_simp
    with_reducible rfl
  rotate_left
  · simp only [Act.put, List.setIfInBounds_toArray, List.set_cons_zero, List.set_cons_succ, i64_w, i32_w]
    rfl
  refine pure_ (i := 6) (N := some 10) (v := ?_) (a' := ?_) #[true, false, true, true, true, false, true, false, false, false, false, false, false, false, false, false, false, false, false, false] rfl rfl (by kernel_rfl) (fun _ _ _ h => h) (Or.inl ⟨by rfl, ?_⟩) ?_ ?_
  rotate_left
  · intro w'
    go_simp
    with_reducible rfl
  rotate_left
  · simp only [Act.put, List.setIfInBounds_toArray, List.set_cons_zero, List.set_cons_succ, i64_w, i32_w]
    rfl
  refine pure_ (i := 9) (N := some 13) (v := ?_) (a' := ?_) #[true, false, true, true, true, false, true, false, false, true, false, false, false, false, false, false, false, false, false, false] rfl rfl (by kernel_rfl) (fun _ _ _ h => h) (Or.inl ⟨by rfl, ?_⟩) ?_ ?_
  rotate_left
  · intro w'
    go_simp
    with_reducible rfl
  rotate_left
  · simp only [Act.put, List.setIfInBounds_toArray, List.set_cons_zero, List.set_cons_succ, i64_w, i32_w]
    rfl
  refine pure_ (i := 10) (N := some 14) (v := ?_) (a' := ?_) #[true, false, true, true, true, false, true, false, false, true, true, false, false, false, false, false, false, false, false, false] rfl rfl (by kernel_rfl) (fun _ _ _ h => h) (Or.inl ⟨by rfl, ?_⟩) ?_ ?_
  rotate_left
  · intro w'
    go_simp
    with_reducible rfl
  rotate_left
  · simp only [Act.put, List.setIfInBounds_toArray, List.set_cons_zero, List.set_cons_succ, i64_w, i32_w]
    rfl
  refine pure_ (i := 11) (N := some 15) (v := ?_) (a' := ?_) #[true, false, true, true, true, false, true, false, false, true, true, true, false, false, false, false, false, false, false, false] rfl rfl (by kernel_rfl) (fun _ _ _ h => h) (Or.inl ⟨by rfl, ?_⟩) ?_ ?_
  rotate_left
  · intro w'
    go_simp
    with_reducible rfl
  rotate_left
  · simp only [Act.put, List.setIfInBounds_toArray, List.set_cons_zero, List.set_cons_succ, i64_w, i32_w]
    rfl
  refine pure_ (i := 13) (N := some 17) (v := ?_) (a' := ?_) #[true, false, true, true, true, false, true, false, false, true, true, true, false, true, false, false, false, false, false, false] rfl rfl (by kernel_rfl) (fun _ _ _ h => h) (Or.inl ⟨by rfl, ?_⟩) ?_ ?_
  rotate_left
  · intro w'
    go_simp
    with_reducible rfl
  rotate_left
  · simp only [Act.put, List.setIfInBounds_toArray, List.set_cons_zero, List.set_cons_succ, i64_w, i32_w]
    rfl
  refine pure_ (i := 14) (N := some 18) (v := ?_) (a' := ?_) #[true, false, true, true, true, false, true, false, false, true, true, true, false, true, true, false, false, false, false, false] rfl rfl (by kernel_rfl) (fun _ _ _ h => h) (Or.inl ⟨by rfl, ?_⟩) ?_ ?_
  rotate_left
  · intro w'
    go_simp
    with_reducible rfl
  rotate_left
  · simp only [Act.put, List.setIfInBounds_toArray, List.set_cons_zero, List.set_cons_succ, i64_w, i32_w]
    rfl
  refine take_ (i := 5) (N := some 9) (v := ?_) (a' := ?_) #[true, false, true, true, true, true, true, false, false, true, true, true, false, true, true, false, false, false, false, false] rfl rfl (by kernel_rfl) (fun _ _ _ h => h) (Or.inl ⟨by rfl, ?_⟩) hHeld ?_ ?_
  rotate_left
  · intro w' s0
    go_simp
    with_reducible rfl
  rotate_left
  · simp only [Act.put, List.setIfInBounds_toArray, List.set_cons_zero, List.set_cons_succ, i64_w, i32_w]
    rfl
  refine pure_ (i := 7) (N := some 11) (v := ?_) (a' := ?_) #[true, false, true, true, true, true, true, true, false, true, true, true, false, true, true, false, false, false, false, false] rfl rfl (by kernel_rfl) (fun _ _ _ h => h) (Or.inl ⟨by rfl, ?_⟩) ?_ ?_
  rotate_left
  · intro w'
    go_simp
    with_reducible rfl
  rotate_left
  · simp only [Act.put, List.setIfInBounds_toArray, List.set_cons_zero, List.set_cons_succ, i64_w, i32_w]
    rfl
  refine take_ (i := 12) (N := some 16) (v := ?_) (a' := ?_) #[true, false, true, true, true, true, true, true, false, true, true, true, true, true, true, false, false, false, false, false] rfl rfl (by kernel_rfl) (fun _ _ _ h => h) (Or.inl ⟨by rfl, ?_⟩) hHeld ?_ ?_
  rotate_left
  · intro w' s0
    go_simp
    with_reducible rfl
  rotate_left
  · simp only [Act.put, List.setIfInBounds_toArray, List.set_cons_zero, List.set_cons_succ, i64_w, i32_w]
    rfl
  refine pure_ (i := 15) (N := some 19) (v := ?_) (a' := ?_) #[true, false, true, true, true, true, true, true, false, true, true, true, true, true, true, true, false, false, false, false] rfl rfl (by kernel_rfl) (fun _ _ _ h => h) (Or.inl ⟨by rfl, ?_⟩) ?_ ?_
  rotate_left
  · intro w'
    go_simp
    with_reducible rfl
  rotate_left
  · simp only [Act.put, List.setIfInBounds_toArray, List.set_cons_zero, List.set_cons_succ, i64_w, i32_w]
    rfl
  refine one_ (i := 1) (N := some 5) #[true, true, true, true, true, true, true, true, false, true, true, true, true, true, true, true, false, false, false, false] rfl rfl (by kernel_rfl) (by decide) (fun K hK => ?_)
  refine value_ (w1 := ?_) (v := ?_) (by rfl) rfl ?_ ?_
  rotate_left 2
  · go_simp
    constructor
    · rfl
    · rfl
  obtain ⟨w2, hw2⟩ : ∃ w2, w2 = (w.alloc (.cells #[] 91)).drew := ⟨_, rfl⟩
  have b2w : Below w.heap.size w w2 := by rw [hw2]; exact below_drew (below_alloc (Below.refl _ _) _)
  have H2 := Lib.hid (And.intro b2w (And.intro (by rw [hw2]; exact Kd.R_below (Kd_lit P (HUP.out _ (Nat.le_refl _))) (below_drew (Below.refl _ _)) : Kd.R k91 91 w2 0 P (.slice (some ⟨w.heap.size, 0, none⟩) 0 0) []) (And.intro (fun k hk => by simp [Value.ownBlock] at hk; omega : ∀ k, (Value.slice (some ⟨w.heap.size, 0, none⟩) 0 0).ownBlock = some k → w.heap.size ≤ k) (HC.out _ b2w))))
  rw [← hw2]
  clear hw2
  refine hK.out _ _ (H2.out.2.2.2) (fun hHeld => ?_)
  clear hK K
  refine norm_ (a' := ?_) ?_ ?_
  rotate_left
  · show Act.put _ (some 5) _ = _
    simp only [Act.put, List.setIfInBounds_toArray, List.set_cons_zero, List.set_cons_succ, i64_w, i32_w]
    rfl
  refine one_ (i := 8) (N := some 12) #[true, true, true, true, true, true, true, true, true, true, true, true, true, true, true, true, false, false, false, false] rfl rfl (by kernel_rfl) (by decide) (fun K hK => ?_)
  obtain ⟨a1, a2, a3, a4⟩ := H2.out
  refine Kd.R_append_rows_step k91 (Rr := k91.M w2 0 (Old P w)) (w0 := w2) 0 (by rfl) (.tmp 5) (.tmp 11) 47 91 (.agg #[.int .u32 0, .int .i64 0, .int .u32 0, .slice none 0 0]) 48 rfl Try.underlying47 info91 rfl (by decide) (by omega) (.slice (some ⟨w.heap.size, 0, none⟩) 0 0) [] ((rows ms).take i) (some ad) i c P (Old P w) rfl rfl a2 ?aR (fun _ _ h => h) ?aK ?aF (Below.refl _ _) (Nat.zero_le _) ?aL ?_
  case aR => exact reads_take (HR.out _ a1) i (by rw [rows_len]; omega)
  case aK => exact old_ne (fun x hx => by simp [Value.ownBlock] at hx; omega)
  case aF => exact fun x hx => HUP.out x (Nat.le_trans a1.size hx)
  case aL => simp; omega
  intro v3 w3 q1 q2 q3 q4
  obtain ⟨p1, p2⟩ := grew a1 a3 q3 q4
  rw [List.nil_append] at q1
  have H3 := Lib.hid (And.intro p1 (And.intro q1 p2))
  have c3 : w3.cell? ⟨b, 1, none⟩ = some (.slice (some ad) ms.length c) := HC.out _ p1
  clear a1 a2 a3 a4 q1 q2 q3 q4 p1 p2 H2
  refine hK.out _ _ (c3) (fun hHeld => ?_)
  clear hK K
  refine norm_ (a' := ?_) ?_ ?_
  rotate_left
  · show Act.put _ (some 12) _ = _
    simp only [Act.put, List.setIfInBounds_toArray, List.set_cons_zero, List.set_cons_succ, i64_w, i32_w]
    rfl
  refine one_ (i := 16) (N := some 20) #[true, true, true, true, true, true, true, true, true, true, true, true, true, true, true, true, true, false, false, false] rfl rfl (by kernel_rfl) (by decide) (fun K hK => ?_)
  obtain ⟨a1, a2, a3⟩ := H3.out
  refine Kd.R_append_rows_step k91 (Rr := k91.M w3 0 (Old P w)) (w0 := w3) 0 (by rfl) (.tmp 12) (.tmp 19) 47 91 (.agg #[.int .u32 0, .int .i64 0, .int .u32 0, .slice none 0 0]) 48 rfl Try.underlying47 info91 rfl (by decide) (by omega) v3 ((rows ms).take i) ((rows ms).drop (i + 1)) _ _ _ P (Old P w) rfl rfl a2 ?aR (fun _ _ h => h) ?aK ?aF (Below.refl _ _) (Nat.zero_le _) ?aL ?_
  case aR => have hq := reads_drop (HR.out _ a1) (i + 1) (by rw [rows_len]; omega) (by rw [rows_len]; omega); rw [rows_len] at hq; exact hq
  case aK => exact old_ne a3
  case aF => exact fun x hx => HUP.out x (Nat.le_trans a1.size hx)
  case aL => simp [rows]; omega
  intro v4 w4 q1 q2 q3 q4
  obtain ⟨p1, p2⟩ := grew a1 a3 q3 q4
  rw [rows_cut] at q1
  obtain ⟨A4, n4, c4, rfl⟩ : ∃ A n c, v4 = .slice A n c := by obtain ⟨A, c, e, _⟩ := Kd.R_reads q1; exact ⟨_, _, _, e⟩
  have H4 := Lib.hid (And.intro p1 q1)
  have c4_ : w4.cell? ⟨b, 1, none⟩ = some (.slice (some ad) ms.length c) := HC.out _ p1
  have f4 : w4.frozen? ⟨b, 1, none⟩ = false := HZ.out _ p1
  clear a1 a2 a3 q1 q2 q3 q4 p1 p2 H3 c3
  refine hK.out _ _ (c4_) (fun hHeld => ?_)
  clear hK K
  refine norm_ (a' := ?_) ?_ ?_
  rotate_left
  · show Act.put _ (some 20) _ = _
    simp only [Act.put, List.setIfInBounds_toArray, List.set_cons_zero, List.set_cons_succ, i64_w, i32_w]
    rfl
  refine pure_ (i := 17) (N := some 21) (v := ?_) (a' := ?_) #[true, true, true, true, true, true, true, true, true, true, true, true, true, true, true, true, true, true, false, false] rfl rfl (by kernel_rfl) (fun _ _ _ h => h) (Or.inl ⟨by rfl, ?_⟩) ?_ ?_
  rotate_left
  · intro w'
    go_simp
    with_reducible rfl
  rotate_left
  · simp only [Act.put, List.setIfInBounds_toArray, List.set_cons_zero, List.set_cons_succ, i64_w, i32_w]
    rfl
  refine pure_ (i := 18) (N := some 22) (v := ?_) (a' := ?_) #[true, true, true, true, true, true, true, true, true, true, true, true, true, true, true, true, true, true, true, false] rfl rfl (by kernel_rfl) (fun _ _ _ h => h) (Or.inl ⟨by rfl, ?_⟩) ?_ ?_
  rotate_left
  · intro w'
    go_simp
    with_reducible rfl
  rotate_left
  · simp only [Act.put, List.setIfInBounds_toArray, List.set_cons_zero, List.set_cons_succ, i64_w, i32_w]
    rfl
  refine last_ (i := 19) (N := none) #[true, true, true, true, true, true, true, true, true, true, true, true, true, true, true, true, true, true, true, true] rfl rfl (by kernel_rfl) (by decide) (fun K hK => ?_)
  refine skip_ (w1 := ?_) (by rfl) rfl ?_ ?_
  rotate_left
  · go_simp
    rfl
  refine hK.out _ _ ?_
  clear hK K
  refine done_ (by kernel_rfl) ?_

  go_end0
  exact ⟨rfl, HEND.out _ _ H4.out.1 H4.out.2⟩
end
section
variable {P : Nat → Prop} {w w1 w2 w3 : World} {b : Nat} {most h m : Int} {ms : List En}
theorem Ref.hit (hh : Ref P b most ms h m w) : Ref P b most ms (h + 1) m (w.setCell ⟨b, 2, none⟩ (.int .i64 (h + 1))) ∧ Mod P w (w.setCell ⟨b, 2, none⟩ (.int .i64 (h + 1))) := by
  obtain ⟨h1, ov, h2, h3⟩ := hh
  exact ⟨⟨h1, ov, blk_put h2 2 _ rfl, Kd.R_set h3 h2 (by decide) 2 _⟩, (Mod.refl P w).set (.inl h1) _⟩
theorem Ref.miss (hh : Ref P b most ms h m w) : Ref P b most ms h (m + 1) (w.setCell ⟨b, 3, none⟩ (.int .i64 (m + 1))) ∧ Mod P w (w.setCell ⟨b, 3, none⟩ (.int .i64 (m + 1))) := by
  obtain ⟨h1, ov, h2, h3⟩ := hh
  exact ⟨⟨h1, ov, blk_put h2 3 _ rfl, Kd.R_set h3 h2 (by decide) 3 _⟩, (Mod.refl P w).set (.inl h1) _⟩
theorem cell_far_set (w : World) (p q : Addr) (u : Value) (hne : ¬ q.block = p.block) : (w.setCell p u).cell? q = w.cell? q := by
  have := Below.heap_setCell w p u q.block hne
  unfold World.cell?
  rw [this]
theorem idxOf_none {k : K} (hk : idx ms k = none) : idxOf (keysOf ms) k = -1 := by rw [idx_of, hk]
theorem idxOf_some {k : K} {j : Nat} (hk : idx ms k = some j) : idxOf (keysOf ms) k = (j : Int) := by rw [idx_of, hk]
theorem del_some {k : K} {j : Nat} (hk : idx ms k = some j) : del ms k = ms.eraseIdx j := by unfold del; rw [hk]
set_option maxRecDepth 100000 in
set_option maxHeartbeats 1000000 in
theorem ref_no (k : K) (gen : Int) (hk : idx ms k = none) (hh : Ref P b most ms h m w) (hu : Up P w) (hn : ms.length ≤ 1000) (hm0 : 0 ≤ m) (hm1 : m ≤ 1000000) :
    Calls Try.prog 20 #[.pointer (some ⟨b, 0, none⟩), .int .u32 k.1, .int .i64 k.2, .int .u32 gen] w fun e w' => e = .returned (.tuple #[.slice none 0 0, .bool false]) ∧ Ref P b most ms h (m + 1) w' ∧ Mod P w w' := by
  have AT := ref_at k hh hn
  rw [idxOf_none hk] at AT
  obtain ⟨_, ov, h2, h3⟩ := id hh
  have c1 : w.cell? ⟨b, 3, none⟩ = some (.int .i64 m) := (blk_cell h2 3).trans rfl
  have f1 : w.frozen? ⟨b, 3, none⟩ = false := blk_frozen h2 3
  have HX := Lib.hid hh.miss
  have HM := Lib.hid hh
  clear h2 h3 hk hh
  go_enter Try.func20, Try.ntmps20
  go_wp2_with fail
  refine AT.mono ?_
  clear AT
  rintro e w4 ⟨rfl, rfl⟩
  go_wp2
  refine bodyPost_ret (results_tmp2 rfl _ _ _) rfl ?_
  exact ⟨rfl, HX.out⟩
set_option maxRecDepth 100000 in
set_option maxHeartbeats 1000000 in
theorem ref_miss (k : K) (gen : Int) (j : Nat) (hk : idx ms k = some j) (hj : j < ms.length) (hg : ¬ ms[j].2.1 = gen) (hh : Ref P b most ms h m w) (hu : Up P w) (hn : ms.length ≤ 1000) (hm0 : 0 ≤ m) (hm1 : m ≤ 1000000) :
    Calls Try.prog 20 #[.pointer (some ⟨b, 0, none⟩), .int .u32 k.1, .int .i64 k.2, .int .u32 gen] w fun e w' => e = .returned (.tuple #[.slice none 0 0, .bool false]) ∧ Ref P b most (del ms k) h (m + 1) w' ∧ Mod P w w' := by
  have AT := ref_at k hh hn
  rw [idxOf_some hk] at AT
  have RM := ref_remove j hj hh.miss.1 (hu.mono hh.miss.2.size) (by omega)
  rw [← del_some hk] at RM
  obtain ⟨_, ov, h2, h3⟩ := id hh
  obtain ⟨A, c, rfl, h4, h5⟩ := row91 h3
  obtain ⟨ad, A3, c3, rfl, g0, g1, g2, g3, _, _⟩ := cells91 h5 j hj
  have c0 : w.cell? ⟨b, 1, none⟩ = some (.slice (some ad) ms.length c) := (blk_cell h2 1).trans rfl
  have c1 : w.cell? ⟨b, 3, none⟩ = some (.int .i64 m) := (blk_cell h2 3).trans rfl
  have f1 : w.frozen? ⟨b, 3, none⟩ = false := blk_frozen h2 3
  have HX := Lib.hid hh.miss
  have b1 : (0 : Int) ≤ (j : Int) := by omega
  clear h2 h3 hk hh g0 g1 g3
  go_enter Try.func20, Try.ntmps20
  go_wp2_with (first | (go_at_call 31; refine AT.mono ?_; clear AT; rintro e w4 ⟨rfl, rfl⟩) | (go_at_call 32; refine RM.mono ?_; clear RM; rintro e w5 ⟨rfl, p1, p2⟩; have H5 := Lib.hid (And.intro p1 (HX.out.2.trans p2)); clear p1 p2))
  refine bodyPost_ret (results_tmp2 rfl _ _ _) rfl ?_
  exact ⟨rfl, H5.out⟩
set_option maxRecDepth 100000 in
set_option maxHeartbeats 1000000 in
theorem ref_hit (k : K) (gen : Int) (j : Nat) (hk : idx ms k = some j) (hj : j < ms.length) (hg : ms[j].2.1 = gen) (hh : Ref P b most ms h m w) (hu : Up P w) (hn : ms.length ≤ 1000) (hm0 : 0 ≤ h) (hm1 : h ≤ 1000000) :
    Calls Try.prog 20 #[.pointer (some ⟨b, 0, none⟩), .int .u32 k.1, .int .i64 k.2, .int .u32 gen] w fun e w' => ∃ A c, e = .returned (.tuple #[.slice A ms[j].2.2.length c, .bool true]) ∧ ms[j].2.2.length ≤ c ∧ Kd.C k83 w' A ms[j].2.2.length (refs ms[j].2.2) ∧ Ref P b most ms (h + 1) m w' ∧ Mod P w w' := by
  have AT := ref_at k hh hn
  rw [idxOf_some hk] at AT
  obtain ⟨w9, hw9⟩ : ∃ w9, w9 = w.setCell ⟨b, 2, none⟩ (.int .i64 (h + 1)) := ⟨_, rfl⟩
  have hx := hh.hit
  rw [← hw9] at hx
  obtain ⟨_, ov, h2, h3⟩ := id hh
  obtain ⟨A, c, rfl, h4, h5⟩ := row91 h3
  obtain ⟨ad, A3, c3, rfl, g0, g1, g2, g3, g4, g5⟩ := cells91 h5 j hj
  have c0 : w.cell? ⟨b, 1, none⟩ = some (.slice (some ad) ms.length c) := (blk_cell h2 1).trans rfl
  have c1 : w.cell? ⟨b, 2, none⟩ = some (.int .i64 h) := (blk_cell h2 2).trans rfl
  have f1 : w.frozen? ⟨b, 2, none⟩ = false := blk_frozen h2 2
  have b1 : (0 : Int) ≤ (j : Int) := by omega
  have hne : ¬ (ad.add (j * 4)).block = b := by
    have hq := Kd.R_ne h3 h2 (by decide)
    intro e
    have e2 : (ad.add (j * 4)).block = ad.block := by unfold Addr.add; split <;> rfl
    rw [e2] at e
    exact hq (by rw [← e]; rfl)
  have hne' : ¬ b = (ad.add (j * 4)).block := fun e => hne e.symm
  have hb9 : w9.heap[b]? = some (rb most (.slice (some ad) ms.length c) (h + 1) m) := by rw [hw9]; exact blk_put h2 2 _ rfl
  have hr9 : Kd.R k91 91 w9 0 P (.slice (some ad) ms.length c) (rows ms) := by rw [hw9]; exact Kd.R_set h3 h2 (by decide) 2 _
  obtain ⟨A', c', e', h4', h5'⟩ := row91 hr9
  injection e' with e1 e2 e3
  subst e1
  subst e3
  obtain ⟨ad', A3', c3', e', g0', g1', g2', g3', g4', g5'⟩ := cells91 h5' j hj
  cases e'
  have e9 : w9.cell? ⟨(ad.add (j * 4)).block, (ad.add (j * 4)).off + 3, none⟩ = w.cell? ⟨(ad.add (j * 4)).block, (ad.add (j * 4)).off + 3, none⟩ := by
    rw [hw9]
    exact cell_far_set _ ⟨b, 2, none⟩ ⟨(ad.add (j * 4)).block, (ad.add (j * 4)).off + 3, none⟩ _ hne
  rw [e9, g3] at g3'
  injection g3' with g3'
  injection g3' with y1 y2 y3
  subst y1
  subst y3
  have HG := Lib.hid (And.intro g4' g5')
  have k0 : w9.cell? ⟨b, 1, none⟩ = some (.slice (some ad) ms.length c) := (blk_cell hb9 1).trans rfl
  have HX := Lib.hid hx
  subst hg
  clear h2 h3 hk hh g0 g1 g4 g5 g0' g1' g2' h5 h5' hr9 hb9 hx h4' k0 g4' g5'
  go_enter Try.func20, Try.ntmps20
  go_wp2_with (first | (go_at_call 31; refine AT.mono ?_; clear AT; rintro e w4 ⟨rfl, rfl⟩))
  rw [← hw9]
  refine bodyPost_ret (results_tmp2 rfl _ _ _) rfl ?_
  exact ⟨A3, c3, rfl, HG.out.1, HG.out.2, HX.out⟩
end
section
variable {P : Nat → Prop} {w w1 w2 w3 : World} {b : Nat} {most h m : Int} {ms : List En}
/-- What is left when all from q on has been looked at. -/
def cur (pc : Int) (ms : List En) (q : Nat) : List En := ms.take q ++ rest pc (ms.drop q)
theorem cur_all (pc : Int) (ms : List En) : cur pc ms ms.length = ms := by simp [cur, rest]
theorem cur_zero (pc : Int) (ms : List En) : cur pc ms 0 = rest pc ms := by simp [cur]
theorem cur_split (pc : Int) (r : Nat) (hr : r < ms.length) : cur pc ms (r + 1) = ms.take r ++ ms[r] :: rest pc (ms.drop (r + 1)) := by
  unfold cur
  rw [List.take_add_one, List.getElem?_eq_getElem hr, List.append_assoc]
  rfl
theorem cur_len (pc : Int) (q : Nat) (hq : q ≤ ms.length) : q ≤ (cur pc ms q).length ∧ (cur pc ms q).length ≤ ms.length := by
  have h1 := rest_le pc (ms.drop q)
  unfold cur
  simp only [List.length_append, List.length_take, List.length_drop] at *
  omega
theorem cur_get (pc : Int) (r : Nat) (hr : r < ms.length) (h2 : r < (cur pc ms (r + 1)).length) : (cur pc ms (r + 1))[r] = ms[r] := by
  have hl : (ms.take r).length = r := by rw [List.length_take]; omega
  have := cur_split (ms := ms) pc r hr
  simp only [this]
  rw [List.getElem_append_right (by omega)]
  simp [hl]
theorem cur_yes (pc : Int) (r : Nat) (hr : r < ms.length) (hp : pg pc ms[r].1 = true) : (cur pc ms (r + 1)).eraseIdx r = cur pc ms r ∧ cnt pc (ms.drop r) = cnt pc (ms.drop (r + 1)) + 1 := by
  have hl : (ms.take r).length = r := by rw [List.length_take]; omega
  have hd := List.drop_eq_getElem_cons hr
  constructor
  · rw [cur_split pc r hr, List.eraseIdx_append_of_length_le (by omega), hl, Nat.sub_self, List.eraseIdx_cons_zero]
    unfold cur rest
    rw [hd, List.filter_cons_of_neg (p := fun e : En => !pg pc e.1) (by rw [hp]; decide)]
  · unfold cnt
    rw [hd, List.filter_cons_of_pos (p := fun e : En => pg pc e.1) hp, List.length_cons]
theorem cur_no (pc : Int) (r : Nat) (hr : r < ms.length) (hp : pg pc ms[r].1 = false) : cur pc ms (r + 1) = cur pc ms r ∧ cnt pc (ms.drop r) = cnt pc (ms.drop (r + 1)) := by
  have hd := List.drop_eq_getElem_cons hr
  constructor
  · rw [cur_split pc r hr]
    unfold cur rest
    rw [hd, List.filter_cons_of_pos (p := fun e : En => !pg pc e.1) (by rw [hp]; decide)]
  · unfold cnt
    rw [hd, List.filter_cons_of_neg (p := fun e : En => pg pc e.1) (by rw [hp]; decide)]
set_option maxRecDepth 100000 in
set_option maxHeartbeats 1000000 in
theorem ref_drop (pc : Int) (hh : Ref P b most ms h m w) (hu : Up P w) (hn : ms.length ≤ 1000) :
    Calls Try.prog 21 #[.pointer (some ⟨b, 0, none⟩), .int .u32 pc] w fun e w' => e = .returned (.int .i64 (cnt pc ms)) ∧ Ref P b most (rest pc ms) h m w' ∧ Mod P w w' := by
  obtain ⟨_, ov, h2, h3⟩ := id hh
  obtain ⟨A, c, rfl, h4, h5⟩ := row91 h3
  have c1 : w.cell? ⟨b, 1, none⟩ = some (.slice A ms.length c) := (blk_cell h2 1).trans rfl
  have HH := Lib.hid hh
  have HU := Lib.hid hu
  clear h2 h3 h4 h5 hh hu
  go_enter Try.func21, Try.ntmps21
  go_wp2
  go_loopw [6, 5] (fun i n wr => ∃ q : Nat, q ≤ ms.length ∧ i = .int .i64 ((q : Int) - 1) ∧ n = .int .i64 (cnt pc (ms.drop q)) ∧ Hid (Ref P b most (cur pc ms q) h m wr ∧ Mod P w wr)) (fun i _ _ => ((intOf i) + 1).toNat)
  case atStart => exact ⟨ms.length, Nat.le_refl _, by go_num, by simp [cnt], Lib.hid ⟨by rw [cur_all]; exact HH.out, Mod.refl _ _⟩⟩
  case round =>
    obtain ⟨q, hq, rfl, rfl, HQ⟩ := hrel
    clear c1 HH
    cases q with
    | zero =>
      go_wp2
      go_ret
      obtain ⟨g1, g2⟩ := HQ.out
      rw [cur_zero] at g1
      exact ⟨rfl, g1, g2⟩
    | succ r =>
      have e : ((r + 1 : Nat) : Int) - 1 = (r : Int) := by omega
      rw [e]
      have hcl := cur_len (ms := ms) pc (r + 1) hq
      obtain ⟨_, ov, h2, h3⟩ := HQ.out.1
      obtain ⟨A, c, rfl, h4, h5⟩ := row91 h3
      have c1 : wr.cell? ⟨b, 1, none⟩ = some (.slice A (cur pc ms (r + 1)).length c) := (blk_cell h2 1).trans rfl
      obtain ⟨ad, A3, c3, rfl, g0, g1, g2, g3, _, _⟩ := cells91 h5 r (by omega)
      rw [cur_get pc r (by omega)] at g0
      clear h2 h3 h4 h5 g1 g2 g3
      have hrl : r < (cur pc ms (r + 1)).length := by omega
      by_cases hp : pg pc ms[r].1 = true
      · have hpe : ms[r].1.1.tdiv 256 % 4294967296 = pc.tdiv 256 % 4294967296 := by simpa [pg] using hp
        obtain ⟨y1, y2⟩ := cur_yes (ms := ms) pc r (by omega) hp
        have RM := ref_remove r hrl HQ.out.1 (HU.out.mono HQ.out.2.size) (by omega)
        rw [y1] at RM
        have Y2 := Lib.hid y2
        clear y1 y2 hp e
        go_wp2_with fail
        refine RM.mono ?_
        clear RM
        rintro e w4 ⟨rfl, p1, p2⟩
        have H4 : Hid (Ref P b most (cur pc ms r) h m w4 ∧ Mod P w w4) := Lib.hid ⟨p1, HQ.out.2.trans p2⟩
        clear p1 p2 HQ g0 c1
        have hcn := cnt_le pc (ms.drop (r + 1))
        have hdl : (ms.drop (r + 1)).length ≤ 1000 := by rw [List.length_drop]; omega
        go_wp2
        go_roundw
        case rel => exact ⟨r, by omega, by go_num, by rw [Y2.out]; go_num, H4⟩
        case measure => first | (simp [intOf]; done) | (simp [intOf]; omega)
      · have hpe : ¬ ms[r].1.1.tdiv 256 % 4294967296 = pc.tdiv 256 % 4294967296 := by simpa [pg] using hp
        obtain ⟨y1, y2⟩ := cur_no (ms := ms) pc r (by omega) (by simpa using hp)
        have H4 : Hid (Ref P b most (cur pc ms r) h m wr ∧ Mod P w wr) := Lib.hid (by rw [← y1]; exact HQ.out)
        have Y2 := Lib.hid y2
        clear y1 y2 hp e HQ
        go_wp2
        go_roundw
        case rel => exact ⟨r, by omega, by go_num, by rw [Y2.out], H4⟩
        case measure => first | (simp [intOf]; done) | (simp [intOf]; omega)
end
def New (P : Nat → Prop) (w : World) : Nat → Prop := fun k => P k ∧ w.heap.size ≤ k
section
variable {P : Nat → Prop} {w w1 w2 w3 : World} {b : Nat} {most h m : Int} {ms : List En}
theorem Kd_lit83 (F : Nat → Prop) (hF : F w.heap.size) : Kd.R k83 83 (w.alloc (.cells #[] 83)) 0 F (.slice (some ⟨w.heap.size, 0, none⟩) 0 0) [] :=
  ⟨fun k hk => by simp [Value.ownBlock] at hk; rw [← hk]; exact hF, [], by simpa using World.ownsRow_lit (base := 0) (e := 83) (size := k83.sz) w #[] 0 (Nat.zero_le _) (by decide) (by simp), Reps.none _ _⟩
theorem rows_snoc (ms : List En) (e : En) : rows ms ++ [rk e] = rows (ms ++ [e]) := by simp [rows]
set_option maxRecDepth 100000 in
set_option maxHeartbeats 2000000 in
theorem ref_put (k : K) (gen : Int) (A : Option Addr) (c : Nat) (xs : List S25) (hh : Ref P b most ms h m w) (hu : Up P w) (hn : ms.length ≤ 1000)
    (hL : ∀ w', Mod P w w' → Kd.C k83 w' A xs.length (refs xs)) (hx : xs.length ≤ 1000000) :
    Calls Try.prog 19 #[.pointer (some ⟨b, 0, none⟩), .int .u32 k.1, .int .i64 k.2, .int .u32 gen, .slice A xs.length c] w fun e w' => e = .returned (.tuple #[]) ∧ Ref P b most (putL most ms k gen xs) h m w' ∧ Mod P w w' := by
  have AT := ref_at k hh hn
  have HUP := Lib.hid hu
  rcases hk : idx ms k with _ | j
  · have H4 : Hid (Ref P b most (del ms k) h m w ∧ Mod P w w) := Lib.hid ⟨by unfold del; rw [hk]; exact hh, Mod.refl _ _⟩
    obtain ⟨ms1, hms1⟩ : ∃ ms1, del ms k = ms1 := ⟨_, rfl⟩
    rw [hms1] at H4
    rw [idxOf_none hk] at AT
    clear hh hk
    go_enter Try.func19, Try.ntmps19
    go_wp2_with fail
    refine AT.mono ?_
    clear AT
    rintro e w4 ⟨rfl, hw4⟩
    have H4 : Hid (Ref P b most ms1 h m w4 ∧ Mod P w w4) := Lib.hid ⟨by rw [← hw4]; exact H4.out.1, by rw [← hw4]; exact Mod.refl _ _⟩
    clear hw4

    obtain ⟨h4, m4⟩ := H4.out
    have hl1 : ms1.length ≤ 1000 := by rw [← hms1]; exact Nat.le_trans (del_le ms k) hn
    obtain ⟨hPb, ov, hblk, hrow⟩ := id h4
    obtain ⟨A1, c1, rfl, _, _⟩ := row91 hrow
    have HU4 : Hid (Up P w4) := Lib.hid (hu.mono m4.size)
    have HC : Hid (∀ w', Below w4.heap.size w4 w' → w'.cell? ⟨b, 1, none⟩ = some (.slice A1 ms1.length c1)) := Lib.hid (fun w' hb => (blk_cell ((hb.block b (blk_lt hblk)).trans hblk) 1).trans rfl)
    have HL4 : Hid (∀ w', Below w4.heap.size w4 w' → ReadsRow (k83.K w') 5 w' A xs.length (refs xs)) := Lib.hid (fun w' hb => hL w' (m4.trans (Mod.of_below hb)))
    have HOV : Hid (∀ x, (Value.slice A1 ms1.length c1).ownBlock = some x → x < w4.heap.size) := Lib.hid (fun x hx => ((Kd.R_bound hrow).1 x hx).2.2.1)
    have HR4 : Hid (∀ w', Below w4.heap.size w4 w' → Kd.R k91 91 w' 0 P (.slice A1 ms1.length c1) (rows ms1)) := Lib.hid (fun w' hb => Kd.R_step hrow (fun x _ hl => hb.block x hl))
    obtain ⟨ms2, hms2⟩ : ∃ ms2, ms2 = ms1 ++ [(k, gen, xs)] := ⟨_, rfl⟩
    have HM2 := Lib.hid hms2
    clear hms2
    have HEND : Hid (∀ (w6 w7 : World) (v : Value), Below w4.heap.size w4 w6 → w6.grownBy w7 (Value.slice A1 ms1.length c1).ownBlock → Kd.R k91 91 w7 0 P v (rows ms2) →
        w7.cell? ⟨b, 1, none⟩ = some (.slice A1 ms1.length c1) ∧ w7.frozen? ⟨b, 1, none⟩ = false ∧ Ref P b most ms2 h m (w7.setCell ⟨b, 1, none⟩ v) ∧ Mod P w (w7.setCell ⟨b, 1, none⟩ v)) := by
      refine Lib.hid (fun w6 w7 v hb hg hr => ?_)
      have hb6 : w6.heap[b]? = some (rb most (.slice A1 ms1.length c1) h m) := (hb.block b (blk_lt hblk)).trans hblk
      have hr6 : Kd.R k91 91 w6 0 P (.slice A1 ms1.length c1) (rows ms1) := Kd.R_step hrow (fun x _ hl => hb.block x hl)
      have hb7 : w7.heap[b]? = some (rb most (.slice A1 ms1.length c1) h m) := (hg.block b (blk_lt hb6) (Kd.R_ne hr6 hb6 (by decide))).trans hb6
      have hm7 : Mod P w6 w7 := Mod.of_grown hg (fun x hx => hr6.1 x hx)
      exact ⟨(blk_cell hb7 1).trans rfl, blk_frozen hb7 1, ⟨hPb, _, blk_put hb7 1 _ rfl, Kd.R_set hr hb7 (by decide) 1 v⟩, Mod.set (p := ⟨b, 1, none⟩) ((m4.trans (Mod.of_below hb)).trans hm7) (.inl hPb) v⟩
    clear h4 m4 hblk hrow hPb H4 hL hu
    go_wp2
    have b4 : Below w4.heap.size w4 w4.drew := below_drew (Below.refl _ _)
    have c4 := HC.out _ b4
    clear b4
    refine start_ (n := 17) (S := fun w' => w'.cell? ⟨b, 1, none⟩ = some (.slice A1 ms1.length c1)) (ds := [16]) #[false, false, false, false, false, false, false, false, false, false, false, false, false, false, false, false, false] (by kernel_rfl) rfl rfl (c4) (fun hHeld => ?_)
    refine pure_ (i := 0) (N := some 20) (v := ?_) (a' := ?_) #[true, false, false, false, false, false, false, false, false, false, false, false, false, false, false, false, false] rfl rfl (by kernel_rfl) (fun _ _ _ h => h) (Or.inl ⟨by rfl, ?_⟩) ?_ ?_
    rotate_left
    · intro w'
      go_simp
      with_reducible rfl
    rotate_left
    · simp only [Act.put, List.setIfInBounds_toArray, List.set_cons_zero, List.set_cons_succ, i64_w, i32_w]
      rfl
    refine pure_ (i := 1) (N := some 21) (v := ?_) (a' := ?_) #[true, true, false, false, false, false, false, false, false, false, false, false, false, false, false, false, false] rfl rfl (by kernel_rfl) (fun _ _ _ h => h) (Or.inl ⟨by rfl, ?_⟩) ?_ ?_
    rotate_left
    · intro w'
      go_simp
      with_reducible rfl
    rotate_left
    · simp only [Act.put, List.setIfInBounds_toArray, List.set_cons_zero, List.set_cons_succ, i64_w, i32_w]
      rfl
    refine pure_ (i := 2) (N := some 22) (v := ?_) (a' := ?_) #[true, true, true, false, false, false, false, false, false, false, false, false, false, false, false, false, false] rfl rfl (by kernel_rfl) (fun _ _ _ h => h) (Or.inl ⟨by rfl, ?_⟩) ?_ ?_
    rotate_left
    · intro w'
      go_simp
      with_reducible rfl
    rotate_left
    · simp only [Act.put, List.setIfInBounds_toArray, List.set_cons_zero, List.set_cons_succ, i64_w, i32_w]
      rfl
    refine pure_ (i := 3) (N := some 23) (v := ?_) (a' := ?_) #[true, true, true, true, false, false, false, false, false, false, false, false, false, false, false, false, false] rfl rfl (by kernel_rfl) (fun _ _ _ h => h) (Or.inl ⟨by rfl, ?_⟩) ?_ ?_
    rotate_left
    · intro w'
      go_simp
      with_reducible rfl
    rotate_left
    · simp only [Act.put, List.setIfInBounds_toArray, List.set_cons_zero, List.set_cons_succ, i64_w, i32_w]
      rfl
    refine pure_ (i := 5) (N := some 25) (v := ?_) (a' := ?_) #[true, true, true, true, false, true, false, false, false, false, false, false, false, false, false, false, false] rfl rfl (by kernel_rfl) (fun _ _ _ h => h) (Or.inl ⟨by rfl, ?_⟩) ?_ ?_
    rotate_left
    · intro w'
      go_simp
      with_reducible rfl
    rotate_left
    · simp only [Act.put, List.setIfInBounds_toArray, List.set_cons_zero, List.set_cons_succ, i64_w, i32_w]
      rfl
    refine pure_ (i := 6) (N := some 26) (v := ?_) (a' := ?_) #[true, true, true, true, false, true, true, false, false, false, false, false, false, false, false, false, false] rfl rfl (by kernel_rfl) (fun _ _ _ h => h) (Or.inl ⟨by rfl, ?_⟩) ?_ ?_
    rotate_left
    · intro w'
      go_simp
      with_reducible rfl
    rotate_left
    · simp only [Act.put, List.setIfInBounds_toArray, List.set_cons_zero, List.set_cons_succ, i64_w, i32_w]
      rfl
    refine pure_ (i := 7) (N := some 27) (v := ?_) (a' := ?_) #[true, true, true, true, false, true, true, true, false, false, false, false, false, false, false, false, false] rfl rfl (by kernel_rfl) (fun _ _ _ h => h) (Or.inl ⟨by rfl, ?_⟩) ?_ ?_
    rotate_left
    · intro w'
      go_simp
      with_reducible rfl
    rotate_left
    · simp only [Act.put, List.setIfInBounds_toArray, List.set_cons_zero, List.set_cons_succ, i64_w, i32_w]
      rfl
    refine pure_ (i := 9) (N := some 29) (v := ?_) (a' := ?_) #[true, true, true, true, false, true, true, true, false, true, false, false, false, false, false, false, false] rfl rfl (by kernel_rfl) (fun _ _ _ h => h) (Or.inl ⟨by rfl, ?_⟩) ?_ ?_
    rotate_left
    · intro w'
      go_simp
      with_reducible rfl
    rotate_left
    · simp only [Act.put, List.setIfInBounds_toArray, List.set_cons_zero, List.set_cons_succ, i64_w, i32_w]
      rfl
    refine take_ (i := 4) (N := some 24) (v := ?_) (a' := ?_) #[true, true, true, true, true, true, true, true, false, true, false, false, false, false, false, false, false] rfl rfl (by kernel_rfl) (fun _ _ _ h => h) (Or.inl ⟨by rfl, ?_⟩) hHeld ?_ ?_
    rotate_left
    · intro w' s0
      go_simp
      with_reducible rfl
    rotate_left
    · simp only [Act.put, List.setIfInBounds_toArray, List.set_cons_zero, List.set_cons_succ, i64_w, i32_w]
      rfl
    refine one_ (i := 8) (N := some 28) #[true, true, true, true, true, true, true, true, true, true, false, false, false, false, false, false, false] rfl rfl (by kernel_rfl) (by decide) (fun K hK => ?_)
    refine value_ (w1 := ?_) (v := ?_) (by rfl) rfl ?_ ?_
    rotate_left 2
    · go_simp
      constructor
      · rfl
      · rfl
    obtain ⟨w5, hw5⟩ : ∃ w5, w5 = (w4.alloc (.cells #[] 83)).drew := ⟨_, rfl⟩
    have b5 : Below w4.heap.size w4 w5 := by rw [hw5]; exact below_drew (below_alloc (Below.refl _ _) _)
    have r5 : Kd.R k83 83 w5 0 (New P w4) (.slice (some ⟨w4.heap.size, 0, none⟩) 0 0) [] := by rw [hw5]; exact Kd.R_below (Kd_lit83 _ ⟨HU4.out _ (Nat.le_refl _), Nat.le_refl _⟩) (below_drew (Below.refl _ _))
    have H5 := Lib.hid (And.intro b5 r5)
    have c5 := HC.out _ b5
    rw [← hw5]
    clear hw5 b5 r5
    refine hK.out _ _ (c5) (fun hHeld => ?_)
    clear hK K
    refine norm_ (a' := ?_) ?_ ?_
    rotate_left
    · show Act.put _ (some 28) _ = _
      simp only [Act.put, List.setIfInBounds_toArray, List.set_cons_zero, List.set_cons_succ, i64_w, i32_w]
      rfl
    refine one_ (i := 10) (N := some 30) #[true, true, true, true, true, true, true, true, true, true, true, false, false, false, false, false, false] rfl rfl (by kernel_rfl) (by decide) (fun K hK => ?_)
    obtain ⟨a1, a2⟩ := H5.out
    refine Kd.R_append_rows_step k83 (Rr := k83.K w5) (w0 := w5) 0 (by rfl) (.tmp 28) (.tmp 29) 35 83 (.agg #[(.int .i64 0), (.int .i64 0), (.int .i64 0), (.int .i64 0), (.int .u32 0)]) 40 rfl Try.underlying35 info83 rfl (by decide) (by omega) (.slice (some ⟨w4.heap.size, 0, none⟩) 0 0) [] (refs xs) A xs.length c (New P w4) (fun _ => False) rfl rfl a2 ?aR ?aM (fun _ h => h.elim) ?aF (Below.refl _ _) (Nat.zero_le _) ?aL ?_
    case aR => exact HL4.out _ a1
    case aM => intro y cs h; rw [k83_open h]; exact k83_mkM _ _ _ _
    case aF => exact fun x hx => ⟨HU4.out x (Nat.le_trans a1.size hx), Nat.le_trans a1.size hx⟩
    case aL => simp; omega
    intro v6 w6 q1 q2 q3 q4
    obtain ⟨p1, p2⟩ := grew a1 (by intro k hk; simp [Value.ownBlock] at hk; omega) q3 q4
    rw [List.nil_append] at q1
    obtain ⟨A6, n6, c6, rfl⟩ : ∃ A n c, v6 = .slice A n c := by obtain ⟨A, c, e, _⟩ := Kd.R_reads q1; exact ⟨_, _, _, e⟩
    have H6 := Lib.hid (And.intro p1 q1)
    have c6_ := HC.out _ p1
    clear a1 a2 q1 q2 q3 q4 p1 p2 H5 c5
    refine hK.out _ _ (c6_) (fun hHeld => ?_)
    clear hK K
    refine norm_ (a' := ?_) ?_ ?_
    rotate_left
    · show Act.put _ (some 30) _ = _
      simp only [Act.put, List.setIfInBounds_toArray, List.set_cons_zero, List.set_cons_succ, i64_w, i32_w]
      rfl
    refine pure_ (i := 11) (N := some 31) (v := ?_) (a' := ?_) #[true, true, true, true, true, true, true, true, true, true, true, true, false, false, false, false, false] rfl rfl (by kernel_rfl) (fun _ _ _ h => h) (Or.inl ⟨by rfl, ?_⟩) ?_ ?_
    rotate_left
    · intro w'
      go_simp
      with_reducible rfl
    rotate_left
    · simp only [Act.put, List.setIfInBounds_toArray, List.set_cons_zero, List.set_cons_succ, i64_w, i32_w]
      rfl
    refine one_ (i := 12) (N := some 32) #[true, true, true, true, true, true, true, true, true, true, true, true, true, false, false, false, false] rfl rfl (by kernel_rfl) (by decide) (fun K hK => ?_)
    refine value_ (w1 := ?_) (v := ?_) (by rfl) rfl ?_ ?_
    rotate_left 2
    · go_simp
      constructor
      · rfl
      · rfl
    have c7 := HC.out _ (below_alloc H6.out.1 (.cells #[.int .u32 k.1, .int .i64 k.2, .int .u32 gen, .slice A6 n6 c6] 91))
    refine hK.out _ _ (c7) (fun hHeld => ?_)
    clear hK K
    refine norm_ (a' := ?_) ?_ ?_
    rotate_left
    · show Act.put _ (some 32) _ = _
      simp only [Act.put, List.setIfInBounds_toArray, List.set_cons_zero, List.set_cons_succ, i64_w, i32_w]
      rfl
    refine one_ (i := 13) (N := some 33) #[true, true, true, true, true, true, true, true, true, true, true, true, true, true, false, false, false] rfl rfl (by kernel_rfl) (by decide) (fun K hK => ?_)
    refine Kd.R_append_step k91 (w0 := w6) 0 (by rfl) (.tmp 24) (.tmp 32) 47 91 (.agg #[.int .u32 0, .int .i64 0, .int .u32 0, .slice none 0 0]) 48 rfl Try.underlying47 info91 rfl (by decide) (by omega) (.slice A1 ms1.length c1) (rows ms1) (rk (k, gen, xs)) [.int .u32 k.1, .int .i64 k.2, .int .u32 gen, .slice A6 n6 c6] P (New P w4) rfl rfl ?aP ?aK ?aF ?aO (Below.refl _ _) (Nat.zero_le _) ?aL ?_
    case aP => exact k91_mkM _ _ _ (rk (k, gen, xs)) H6.out.2
    case aK => exact fun x hx => ⟨hx.1, fun e => by have h1 := HOV.out x e.symm; have h2 := hx.2; omega⟩
    case aF => exact fun x hx => HU4.out x (Nat.le_trans H6.out.1.size hx)
    case aO => exact HR4.out _ H6.out.1
    case aL => rw [rows_len]; omega
    intro v7 w7 q1 q2 q3 q4
    rw [rows_snoc, ← HM2.out] at q1
    obtain ⟨e1, e2, e3⟩ := HEND.out _ _ _ H6.out.1 q3 q1
    obtain ⟨A7, c7', rfl, _⟩ := row91 q1
    have H7 := Lib.hid e3
    clear q1 q2 q3 q4 e3 H6 c6_ c7 HEND HR4 HL4 HC
    refine hK.out _ _ (e1) (fun hHeld => ?_)
    clear hK K
    refine norm_ (a' := ?_) ?_ ?_
    rotate_left
    · show Act.put _ (some 33) _ = _
      simp only [Act.put, List.setIfInBounds_toArray, List.set_cons_zero, List.set_cons_succ, i64_w, i32_w]
      rfl
    refine pure_ (i := 14) (N := some 34) (v := ?_) (a' := ?_) #[true, true, true, true, true, true, true, true, true, true, true, true, true, true, true, false, false] rfl rfl (by kernel_rfl) (fun _ _ _ h => h) (Or.inl ⟨by rfl, ?_⟩) ?_ ?_
    rotate_left
    · intro w'
      go_simp
      with_reducible rfl
    rotate_left
    · simp only [Act.put, List.setIfInBounds_toArray, List.set_cons_zero, List.set_cons_succ, i64_w, i32_w]
      rfl
    refine pure_ (i := 15) (N := some 35) (v := ?_) (a' := ?_) #[true, true, true, true, true, true, true, true, true, true, true, true, true, true, true, true, false] rfl rfl (by kernel_rfl) (fun _ _ _ h => h) (Or.inl ⟨by rfl, ?_⟩) ?_ ?_
    rotate_left
    · intro w'
      go_simp
      with_reducible rfl
    rotate_left
    · simp only [Act.put, List.setIfInBounds_toArray, List.set_cons_zero, List.set_cons_succ, i64_w, i32_w]
      rfl
    refine last_ (i := 16) (N := none) #[true, true, true, true, true, true, true, true, true, true, true, true, true, true, true, true, true] rfl rfl (by kernel_rfl) (by decide) (fun K hK => ?_)
    refine skip_ (w1 := ?_) (by rfl) rfl ?_ ?_
    rotate_left
    · go_simp
      rfl
    refine hK.out _ _ ?_
    clear hK K
    refine done_ (by kernel_rfl) ?_

    obtain ⟨w8, hw8⟩ : ∃ w8, w8 = w7.setCell ⟨b, 1, none⟩ (.slice A7 ms2.length c7') := ⟨_, rfl⟩
    rw [← hw8] at H7 ⊢
    clear hw8 e1 e2
    obtain ⟨_, ov, hblk, hrow⟩ := id H7.out.1
    obtain ⟨A8, c8, rfl, _, _⟩ := row91 hrow
    have c0 : w8.cell? ⟨b, 0, none⟩ = some (.int .i64 most) := (blk_cell hblk 0).trans rfl
    have c5 : w8.cell? ⟨b, 1, none⟩ = some (.slice A8 ms2.length c8) := (blk_cell hblk 1).trans rfl
    have hl2 : ms2.length ≤ 1001 ∧ 0 < ms2.length := by rw [HM2.out]; simp; omega
    have hput : putL most ms k gen xs = if most < (ms2.length : Int) then ms2.eraseIdx 0 else ms2 := by
      unfold putL grown
      rw [hms1, ← HM2.out]
      cases ms2 <;> rfl
    have HP := Lib.hid hput
    clear hput hblk hrow
    go_wp2
    have HB := Aside0.mk (below_drew (Below.refl w8.heap.size w8))
    go_region_held3 (fun w' => Aside0 (Below w8.heap.size w8 w') ∧ w'.cell? ⟨b, 0, none⟩ = some (.int .i64 most) ∧ w'.cell? ⟨b, 1, none⟩ = some (.slice A8 ms2.length c8))
      (exact ⟨HB, c0, c5⟩) (fail)
    have H9 := Lib.hid (And.intro (H7.out.1.below (below_drew (Below.refl _ _))) H7.out.2.drew)
    clear c0 c5 H7 HB
    by_cases hgt : most < (ms2.length : Int)
    · have RM := ref_remove 0 (by omega) H9.out.1 (HUP.out.mono H9.out.2.size) (by omega)
      have e := HP.out
      rw [if_pos hgt] at e
      rw [← e] at RM
      clear e
      go_wp2_with fail
      refine RM.mono ?_
      clear RM
      rintro e w9 ⟨rfl, p1, p2⟩
      go_wp2
      go_end0
      exact ⟨rfl, p1, H9.out.2.trans p2⟩
    · have e := HP.out
      rw [if_neg hgt] at e
      have H10 := Lib.hid (by rw [← e] at H9; exact H9.out)
      clear e H9
      go_wp2
      go_end0
      exact ⟨rfl, H10.out⟩
  · have RM := ref_remove j (idx_lt hk) hh hu (by omega)
    rw [← del_some hk] at RM
    obtain ⟨ms1, hms1⟩ : ∃ ms1, del ms k = ms1 := ⟨_, rfl⟩
    rw [hms1] at RM
    rw [idxOf_some hk] at AT
    have b1 : (0 : Int) ≤ (j : Int) := by omega
    clear hh hk
    go_enter Try.func19, Try.ntmps19
    go_wp2_with fail
    refine AT.mono ?_
    clear AT
    rintro e w4 ⟨rfl, rfl⟩
    go_wp2_with fail
    refine RM.mono ?_
    clear RM
    rintro e w4 ⟨rfl, p1, p2⟩
    have H4 := Lib.hid (And.intro p1 p2)
    clear p1 p2

    obtain ⟨h4, m4⟩ := H4.out
    have hl1 : ms1.length ≤ 1000 := by rw [← hms1]; exact Nat.le_trans (del_le ms k) hn
    obtain ⟨hPb, ov, hblk, hrow⟩ := id h4
    obtain ⟨A1, c1, rfl, _, _⟩ := row91 hrow
    have HU4 : Hid (Up P w4) := Lib.hid (hu.mono m4.size)
    have HC : Hid (∀ w', Below w4.heap.size w4 w' → w'.cell? ⟨b, 1, none⟩ = some (.slice A1 ms1.length c1)) := Lib.hid (fun w' hb => (blk_cell ((hb.block b (blk_lt hblk)).trans hblk) 1).trans rfl)
    have HL4 : Hid (∀ w', Below w4.heap.size w4 w' → ReadsRow (k83.K w') 5 w' A xs.length (refs xs)) := Lib.hid (fun w' hb => hL w' (m4.trans (Mod.of_below hb)))
    have HOV : Hid (∀ x, (Value.slice A1 ms1.length c1).ownBlock = some x → x < w4.heap.size) := Lib.hid (fun x hx => ((Kd.R_bound hrow).1 x hx).2.2.1)
    have HR4 : Hid (∀ w', Below w4.heap.size w4 w' → Kd.R k91 91 w' 0 P (.slice A1 ms1.length c1) (rows ms1)) := Lib.hid (fun w' hb => Kd.R_step hrow (fun x _ hl => hb.block x hl))
    obtain ⟨ms2, hms2⟩ : ∃ ms2, ms2 = ms1 ++ [(k, gen, xs)] := ⟨_, rfl⟩
    have HM2 := Lib.hid hms2
    clear hms2
    have HEND : Hid (∀ (w6 w7 : World) (v : Value), Below w4.heap.size w4 w6 → w6.grownBy w7 (Value.slice A1 ms1.length c1).ownBlock → Kd.R k91 91 w7 0 P v (rows ms2) →
        w7.cell? ⟨b, 1, none⟩ = some (.slice A1 ms1.length c1) ∧ w7.frozen? ⟨b, 1, none⟩ = false ∧ Ref P b most ms2 h m (w7.setCell ⟨b, 1, none⟩ v) ∧ Mod P w (w7.setCell ⟨b, 1, none⟩ v)) := by
      refine Lib.hid (fun w6 w7 v hb hg hr => ?_)
      have hb6 : w6.heap[b]? = some (rb most (.slice A1 ms1.length c1) h m) := (hb.block b (blk_lt hblk)).trans hblk
      have hr6 : Kd.R k91 91 w6 0 P (.slice A1 ms1.length c1) (rows ms1) := Kd.R_step hrow (fun x _ hl => hb.block x hl)
      have hb7 : w7.heap[b]? = some (rb most (.slice A1 ms1.length c1) h m) := (hg.block b (blk_lt hb6) (Kd.R_ne hr6 hb6 (by decide))).trans hb6
      have hm7 : Mod P w6 w7 := Mod.of_grown hg (fun x hx => hr6.1 x hx)
      exact ⟨(blk_cell hb7 1).trans rfl, blk_frozen hb7 1, ⟨hPb, _, blk_put hb7 1 _ rfl, Kd.R_set hr hb7 (by decide) 1 v⟩, Mod.set (p := ⟨b, 1, none⟩) ((m4.trans (Mod.of_below hb)).trans hm7) (.inl hPb) v⟩
    clear h4 m4 hblk hrow hPb H4 hL hu
    go_wp2
    have b4 : Below w4.heap.size w4 w4.drew := below_drew (Below.refl _ _)
    have c4 := HC.out _ b4
    clear b4
    refine start_ (n := 17) (S := fun w' => w'.cell? ⟨b, 1, none⟩ = some (.slice A1 ms1.length c1)) (ds := [16]) #[false, false, false, false, false, false, false, false, false, false, false, false, false, false, false, false, false] (by kernel_rfl) rfl rfl (c4) (fun hHeld => ?_)
    refine pure_ (i := 0) (N := some 20) (v := ?_) (a' := ?_) #[true, false, false, false, false, false, false, false, false, false, false, false, false, false, false, false, false] rfl rfl (by kernel_rfl) (fun _ _ _ h => h) (Or.inl ⟨by rfl, ?_⟩) ?_ ?_
    rotate_left
    · intro w'
      go_simp
      with_reducible rfl
    rotate_left
    · simp only [Act.put, List.setIfInBounds_toArray, List.set_cons_zero, List.set_cons_succ, i64_w, i32_w]
      rfl
    refine pure_ (i := 1) (N := some 21) (v := ?_) (a' := ?_) #[true, true, false, false, false, false, false, false, false, false, false, false, false, false, false, false, false] rfl rfl (by kernel_rfl) (fun _ _ _ h => h) (Or.inl ⟨by rfl, ?_⟩) ?_ ?_
    rotate_left
    · intro w'
      go_simp
      with_reducible rfl
    rotate_left
    · simp only [Act.put, List.setIfInBounds_toArray, List.set_cons_zero, List.set_cons_succ, i64_w, i32_w]
      rfl
    refine pure_ (i := 2) (N := some 22) (v := ?_) (a' := ?_) #[true, true, true, false, false, false, false, false, false, false, false, false, false, false, false, false, false] rfl rfl (by kernel_rfl) (fun _ _ _ h => h) (Or.inl ⟨by rfl, ?_⟩) ?_ ?_
    rotate_left
    · intro w'
      go_simp
      with_reducible rfl
    rotate_left
    · simp only [Act.put, List.setIfInBounds_toArray, List.set_cons_zero, List.set_cons_succ, i64_w, i32_w]
      rfl
    refine pure_ (i := 3) (N := some 23) (v := ?_) (a' := ?_) #[true, true, true, true, false, false, false, false, false, false, false, false, false, false, false, false, false] rfl rfl (by kernel_rfl) (fun _ _ _ h => h) (Or.inl ⟨by rfl, ?_⟩) ?_ ?_
    rotate_left
    · intro w'
      go_simp
      with_reducible rfl
    rotate_left
    · simp only [Act.put, List.setIfInBounds_toArray, List.set_cons_zero, List.set_cons_succ, i64_w, i32_w]
      rfl
    refine pure_ (i := 5) (N := some 25) (v := ?_) (a' := ?_) #[true, true, true, true, false, true, false, false, false, false, false, false, false, false, false, false, false] rfl rfl (by kernel_rfl) (fun _ _ _ h => h) (Or.inl ⟨by rfl, ?_⟩) ?_ ?_
    rotate_left
    · intro w'
      go_simp
      with_reducible rfl
    rotate_left
    · simp only [Act.put, List.setIfInBounds_toArray, List.set_cons_zero, List.set_cons_succ, i64_w, i32_w]
      rfl
    refine pure_ (i := 6) (N := some 26) (v := ?_) (a' := ?_) #[true, true, true, true, false, true, true, false, false, false, false, false, false, false, false, false, false] rfl rfl (by kernel_rfl) (fun _ _ _ h => h) (Or.inl ⟨by rfl, ?_⟩) ?_ ?_
    rotate_left
    · intro w'
      go_simp
      with_reducible rfl
    rotate_left
    · simp only [Act.put, List.setIfInBounds_toArray, List.set_cons_zero, List.set_cons_succ, i64_w, i32_w]
      rfl
    refine pure_ (i := 7) (N := some 27) (v := ?_) (a' := ?_) #[true, true, true, true, false, true, true, true, false, false, false, false, false, false, false, false, false] rfl rfl (by kernel_rfl) (fun _ _ _ h => h) (Or.inl ⟨by rfl, ?_⟩) ?_ ?_
    rotate_left
    · intro w'
      go_simp
      with_reducible rfl
    rotate_left
    · simp only [Act.put, List.setIfInBounds_toArray, List.set_cons_zero, List.set_cons_succ, i64_w, i32_w]
      rfl
    refine pure_ (i := 9) (N := some 29) (v := ?_) (a' := ?_) #[true, true, true, true, false, true, true, true, false, true, false, false, false, false, false, false, false] rfl rfl (by kernel_rfl) (fun _ _ _ h => h) (Or.inl ⟨by rfl, ?_⟩) ?_ ?_
    rotate_left
    · intro w'
      go_simp
      with_reducible rfl
    rotate_left
    · simp only [Act.put, List.setIfInBounds_toArray, List.set_cons_zero, List.set_cons_succ, i64_w, i32_w]
      rfl
    refine take_ (i := 4) (N := some 24) (v := ?_) (a' := ?_) #[true, true, true, true, true, true, true, true, false, true, false, false, false, false, false, false, false] rfl rfl (by kernel_rfl) (fun _ _ _ h => h) (Or.inl ⟨by rfl, ?_⟩) hHeld ?_ ?_
    rotate_left
    · intro w' s0
      go_simp
      with_reducible rfl
    rotate_left
    · simp only [Act.put, List.setIfInBounds_toArray, List.set_cons_zero, List.set_cons_succ, i64_w, i32_w]
      rfl
    refine one_ (i := 8) (N := some 28) #[true, true, true, true, true, true, true, true, true, true, false, false, false, false, false, false, false] rfl rfl (by kernel_rfl) (by decide) (fun K hK => ?_)
    refine value_ (w1 := ?_) (v := ?_) (by rfl) rfl ?_ ?_
    rotate_left 2
    · go_simp
      constructor
      · rfl
      · rfl
    obtain ⟨w5, hw5⟩ : ∃ w5, w5 = (w4.alloc (.cells #[] 83)).drew := ⟨_, rfl⟩
    have b5 : Below w4.heap.size w4 w5 := by rw [hw5]; exact below_drew (below_alloc (Below.refl _ _) _)
    have r5 : Kd.R k83 83 w5 0 (New P w4) (.slice (some ⟨w4.heap.size, 0, none⟩) 0 0) [] := by rw [hw5]; exact Kd.R_below (Kd_lit83 _ ⟨HU4.out _ (Nat.le_refl _), Nat.le_refl _⟩) (below_drew (Below.refl _ _))
    have H5 := Lib.hid (And.intro b5 r5)
    have c5 := HC.out _ b5
    rw [← hw5]
    clear hw5 b5 r5
    refine hK.out _ _ (c5) (fun hHeld => ?_)
    clear hK K
    refine norm_ (a' := ?_) ?_ ?_
    rotate_left
    · show Act.put _ (some 28) _ = _
      simp only [Act.put, List.setIfInBounds_toArray, List.set_cons_zero, List.set_cons_succ, i64_w, i32_w]
      rfl
    refine one_ (i := 10) (N := some 30) #[true, true, true, true, true, true, true, true, true, true, true, false, false, false, false, false, false] rfl rfl (by kernel_rfl) (by decide) (fun K hK => ?_)
    obtain ⟨a1, a2⟩ := H5.out
    refine Kd.R_append_rows_step k83 (Rr := k83.K w5) (w0 := w5) 0 (by rfl) (.tmp 28) (.tmp 29) 35 83 (.agg #[(.int .i64 0), (.int .i64 0), (.int .i64 0), (.int .i64 0), (.int .u32 0)]) 40 rfl Try.underlying35 info83 rfl (by decide) (by omega) (.slice (some ⟨w4.heap.size, 0, none⟩) 0 0) [] (refs xs) A xs.length c (New P w4) (fun _ => False) rfl rfl a2 ?aR ?aM (fun _ h => h.elim) ?aF (Below.refl _ _) (Nat.zero_le _) ?aL ?_
    case aR => exact HL4.out _ a1
    case aM => intro y cs h; rw [k83_open h]; exact k83_mkM _ _ _ _
    case aF => exact fun x hx => ⟨HU4.out x (Nat.le_trans a1.size hx), Nat.le_trans a1.size hx⟩
    case aL => simp; omega
    intro v6 w6 q1 q2 q3 q4
    obtain ⟨p1, p2⟩ := grew a1 (by intro k hk; simp [Value.ownBlock] at hk; omega) q3 q4
    rw [List.nil_append] at q1
    obtain ⟨A6, n6, c6, rfl⟩ : ∃ A n c, v6 = .slice A n c := by obtain ⟨A, c, e, _⟩ := Kd.R_reads q1; exact ⟨_, _, _, e⟩
    have H6 := Lib.hid (And.intro p1 q1)
    have c6_ := HC.out _ p1
    clear a1 a2 q1 q2 q3 q4 p1 p2 H5 c5
    refine hK.out _ _ (c6_) (fun hHeld => ?_)
    clear hK K
    refine norm_ (a' := ?_) ?_ ?_
    rotate_left
    · show Act.put _ (some 30) _ = _
      simp only [Act.put, List.setIfInBounds_toArray, List.set_cons_zero, List.set_cons_succ, i64_w, i32_w]
      rfl
    refine pure_ (i := 11) (N := some 31) (v := ?_) (a' := ?_) #[true, true, true, true, true, true, true, true, true, true, true, true, false, false, false, false, false] rfl rfl (by kernel_rfl) (fun _ _ _ h => h) (Or.inl ⟨by rfl, ?_⟩) ?_ ?_
    rotate_left
    · intro w'
      go_simp
      with_reducible rfl
    rotate_left
    · simp only [Act.put, List.setIfInBounds_toArray, List.set_cons_zero, List.set_cons_succ, i64_w, i32_w]
      rfl
    refine one_ (i := 12) (N := some 32) #[true, true, true, true, true, true, true, true, true, true, true, true, true, false, false, false, false] rfl rfl (by kernel_rfl) (by decide) (fun K hK => ?_)
    refine value_ (w1 := ?_) (v := ?_) (by rfl) rfl ?_ ?_
    rotate_left 2
    · go_simp
      constructor
      · rfl
      · rfl
    have c7 := HC.out _ (below_alloc H6.out.1 (.cells #[.int .u32 k.1, .int .i64 k.2, .int .u32 gen, .slice A6 n6 c6] 91))
    refine hK.out _ _ (c7) (fun hHeld => ?_)
    clear hK K
    refine norm_ (a' := ?_) ?_ ?_
    rotate_left
    · show Act.put _ (some 32) _ = _
      simp only [Act.put, List.setIfInBounds_toArray, List.set_cons_zero, List.set_cons_succ, i64_w, i32_w]
      rfl
    refine one_ (i := 13) (N := some 33) #[true, true, true, true, true, true, true, true, true, true, true, true, true, true, false, false, false] rfl rfl (by kernel_rfl) (by decide) (fun K hK => ?_)
    refine Kd.R_append_step k91 (w0 := w6) 0 (by rfl) (.tmp 24) (.tmp 32) 47 91 (.agg #[.int .u32 0, .int .i64 0, .int .u32 0, .slice none 0 0]) 48 rfl Try.underlying47 info91 rfl (by decide) (by omega) (.slice A1 ms1.length c1) (rows ms1) (rk (k, gen, xs)) [.int .u32 k.1, .int .i64 k.2, .int .u32 gen, .slice A6 n6 c6] P (New P w4) rfl rfl ?aP ?aK ?aF ?aO (Below.refl _ _) (Nat.zero_le _) ?aL ?_
    case aP => exact k91_mkM _ _ _ (rk (k, gen, xs)) H6.out.2
    case aK => exact fun x hx => ⟨hx.1, fun e => by have h1 := HOV.out x e.symm; have h2 := hx.2; omega⟩
    case aF => exact fun x hx => HU4.out x (Nat.le_trans H6.out.1.size hx)
    case aO => exact HR4.out _ H6.out.1
    case aL => rw [rows_len]; omega
    intro v7 w7 q1 q2 q3 q4
    rw [rows_snoc, ← HM2.out] at q1
    obtain ⟨e1, e2, e3⟩ := HEND.out _ _ _ H6.out.1 q3 q1
    obtain ⟨A7, c7', rfl, _⟩ := row91 q1
    have H7 := Lib.hid e3
    clear q1 q2 q3 q4 e3 H6 c6_ c7 HEND HR4 HL4 HC
    refine hK.out _ _ (e1) (fun hHeld => ?_)
    clear hK K
    refine norm_ (a' := ?_) ?_ ?_
    rotate_left
    · show Act.put _ (some 33) _ = _
      simp only [Act.put, List.setIfInBounds_toArray, List.set_cons_zero, List.set_cons_succ, i64_w, i32_w]
      rfl
    refine pure_ (i := 14) (N := some 34) (v := ?_) (a' := ?_) #[true, true, true, true, true, true, true, true, true, true, true, true, true, true, true, false, false] rfl rfl (by kernel_rfl) (fun _ _ _ h => h) (Or.inl ⟨by rfl, ?_⟩) ?_ ?_
    rotate_left
    · intro w'
      go_simp
      with_reducible rfl
    rotate_left
    · simp only [Act.put, List.setIfInBounds_toArray, List.set_cons_zero, List.set_cons_succ, i64_w, i32_w]
      rfl
    refine pure_ (i := 15) (N := some 35) (v := ?_) (a' := ?_) #[true, true, true, true, true, true, true, true, true, true, true, true, true, true, true, true, false] rfl rfl (by kernel_rfl) (fun _ _ _ h => h) (Or.inl ⟨by rfl, ?_⟩) ?_ ?_
    rotate_left
    · intro w'
      go_simp
      with_reducible rfl
    rotate_left
    · simp only [Act.put, List.setIfInBounds_toArray, List.set_cons_zero, List.set_cons_succ, i64_w, i32_w]
      rfl
    refine last_ (i := 16) (N := none) #[true, true, true, true, true, true, true, true, true, true, true, true, true, true, true, true, true] rfl rfl (by kernel_rfl) (by decide) (fun K hK => ?_)
    refine skip_ (w1 := ?_) (by rfl) rfl ?_ ?_
    rotate_left
    · go_simp
      rfl
    refine hK.out _ _ ?_
    clear hK K
    refine done_ (by kernel_rfl) ?_

    obtain ⟨w8, hw8⟩ : ∃ w8, w8 = w7.setCell ⟨b, 1, none⟩ (.slice A7 ms2.length c7') := ⟨_, rfl⟩
    rw [← hw8] at H7 ⊢
    clear hw8 e1 e2
    obtain ⟨_, ov, hblk, hrow⟩ := id H7.out.1
    obtain ⟨A8, c8, rfl, _, _⟩ := row91 hrow
    have c0 : w8.cell? ⟨b, 0, none⟩ = some (.int .i64 most) := (blk_cell hblk 0).trans rfl
    have c5 : w8.cell? ⟨b, 1, none⟩ = some (.slice A8 ms2.length c8) := (blk_cell hblk 1).trans rfl
    have hl2 : ms2.length ≤ 1001 ∧ 0 < ms2.length := by rw [HM2.out]; simp; omega
    have hput : putL most ms k gen xs = if most < (ms2.length : Int) then ms2.eraseIdx 0 else ms2 := by
      unfold putL grown
      rw [hms1, ← HM2.out]
      cases ms2 <;> rfl
    have HP := Lib.hid hput
    clear hput hblk hrow
    go_wp2
    have HB := Aside0.mk (below_drew (Below.refl w8.heap.size w8))
    go_region_held3 (fun w' => Aside0 (Below w8.heap.size w8 w') ∧ w'.cell? ⟨b, 0, none⟩ = some (.int .i64 most) ∧ w'.cell? ⟨b, 1, none⟩ = some (.slice A8 ms2.length c8))
      (exact ⟨HB, c0, c5⟩) (fail)
    have H9 := Lib.hid (And.intro (H7.out.1.below (below_drew (Below.refl _ _))) H7.out.2.drew)
    clear c0 c5 H7 HB
    by_cases hgt : most < (ms2.length : Int)
    · have RM := ref_remove 0 (by omega) H9.out.1 (HUP.out.mono H9.out.2.size) (by omega)
      have e := HP.out
      rw [if_pos hgt] at e
      rw [← e] at RM
      clear e
      go_wp2_with fail
      refine RM.mono ?_
      clear RM
      rintro e w9 ⟨rfl, p1, p2⟩
      go_wp2
      go_end0
      exact ⟨rfl, p1, H9.out.2.trans p2⟩
    · have e := HP.out
      rw [if_neg hgt] at e
      have H10 := Lib.hid (by rw [← e] at H9; exact H9.out)
      clear e H9
      go_wp2
      go_end0
      exact ⟨rfl, H10.out⟩
end
end Go.Proofs.Ytnmfmcjgjjanfaa.Cache
