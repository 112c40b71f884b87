/- (*Cache).Drop. -/
import Derived.Test.YtnmfmcjgjjanfaaColl
namespace Go.Proofs.Ytnmfmcjgjjanfaa.Cache
open Go Go.RowKit Go.Proofs.YtnmfmcjgjjanfaaW.PrintWords Go.Proofs.YtnmfmcjgjjanfaaW.PrintLast Go.Proofs.YtnmfmcjgjjanfaaW.PrintMore Go.Proofs.Ytnmfmcjgjjanfaa.Pr Go.Proofs.Ytnmfmcjgjjanfaa.Lits
set_option linter.unusedVariables false
set_option linter.unusedSimpArgs false
section
variable {P : Nat → Prop} {w : World} {ms : List En} {b : Nat} {most d h m : Int}
theorem remove_has (k : K) (hh : Has P b most d ms h m w) (hu : Up P w) (hn : ms.length ≤ 1000000) :
    Calls Try.prog 24 #[.pointer (some ⟨b, 0, none⟩), kv k] w fun e w' => e = .returned (.tuple #[]) ∧ Has P b most 1 (del ms k) h m w' ∧ Mod P w w' := by
  obtain ⟨F, h1, h2⟩ := hh
  refine (remove_any k h2 hn (fun x hx => (h1 x hx).2)).mono ?_
  rintro e w' ⟨rfl, p1, p2⟩
  exact ⟨rfl, Has.of p1 (fun x hx _ => hx.elim (fun h => (h1 x h).1) (hu x)), p2.mono (fun x hx => (h1 x hx).1)⟩
/-- The keys of a row, read. -/
theorem row_at {base : Nat} {v : Value} {ss : List K} (hr : w.ownsRow base 75 2 v ss.length (rowOf ss)) : OrdAt (fun x => base ≤ x ∧ x < w.heap.size) w v ss := by
  have hrow : ∀ (ss : List K) (i : Nat) (k : K), ss[i]? = some k → (rowOf ss)[i * 2]? = some (.int .u32 k.1) ∧ (rowOf ss)[i * 2 + 1]? = some (.int .i64 k.2) := by
    intro ss
    induction ss with
    | nil => intro i k hk; simp at hk
    | cons a r ih =>
      intro i k hk
      cases i with
      | zero =>
        simp at hk
        subst hk
        exact ⟨rfl, rfl⟩
      | succ i =>
        have := ih i k (by simpa using hk)
        rw [show (i + 1) * 2 = i * 2 + 2 by omega, show i * 2 + 2 + 1 = i * 2 + 1 + 2 by omega]
        exact this
  obtain ⟨hl, ho⟩ := hr
  rcases ho with ⟨rfl, hn⟩ | ⟨g, cap, cur, rfl, hg, hb, hcap, hmax, hsz, ht⟩
  · exact .inl ⟨rfl, List.length_eq_zero_iff.1 hn⟩
  · refine .inr ⟨g, cap, cur, rfl, ⟨hg, blk_lt hb⟩, hb, hsz, hcap, hmax, fun i k hk => ?_⟩
    have hlt : i < ss.length := (List.getElem?_eq_some_iff.1 hk).1
    obtain ⟨h0, h1⟩ := hrow ss i k hk
    rw [← ht] at h0 h1
    rw [List.getElem?_take, if_pos (by omega)] at h0 h1
    exact ⟨by simpa using h0, by simpa using h1⟩
/-- The list with the keys that are meant taken out, one by one. -/
def dropped (pg : K → Bool) (ms : List En) (ss : List K) : List En := ss.foldl (fun l k => if pg k then del l k else l) ms
theorem dropped_snoc (pg : K → Bool) (ms : List En) (ss : List K) (k : K) : dropped pg ms (ss ++ [k]) = if pg k then del (dropped pg ms ss) k else dropped pg ms ss := by simp [dropped]
theorem dropped_le (pg : K → Bool) (ms : List En) (ss : List K) : (dropped pg ms ss).length ≤ ms.length := by
  unfold dropped
  induction ss generalizing ms with
  | nil => exact Nat.le_refl _
  | cons k r ih =>
    rw [List.foldl_cons]
    by_cases hp : pg k = true
    · rw [if_pos hp]; exact Nat.le_trans (ih _) (del_le ms k)
    · rw [if_neg hp]; exact ih _
def pg (pc : Int) (k : K) : Bool := k.1.tdiv 256 % 4294967296 == pc.tdiv 256 % 4294967296
set_option maxRecDepth 100000 in
set_option maxHeartbeats 1000000 in
theorem drop_any {F : Nat → Prop} (pc : Int) (hh : Holds F b most d ms h m w) (hn : ms.length ≤ 1000) (hF : ∀ x, F x → x < w.heap.size) :
    Calls Try.prog 16 #[.pointer (some ⟨b, 0, none⟩), .int .u32 pc] w fun e w' => ∃ ss : List K, ss.Perm (keysOf ms) ∧ e = .returned (.int .i64 (ss.filter (pg pc)).length) ∧ Has (fun x => F x ∨ w.heap.size ≤ x) b most 1 (dropped (pg pc) ms ss) h m w' ∧ Mod (fun x => F x ∨ w.heap.size ≤ x) w w' := by
  obtain ⟨hown, ⟨mv, ov, hb, hM, hO⟩, hone⟩ := hh
  have PL := place_any hb hM hO
  go_enter Try.func16, Try.ntmps16
  go_wp2_with fail
  refine PL.mono ?_
  clear PL
  rintro e w2 ⟨mb, rfl, p1, ⟨p2, es, clock, p3, p4, p5⟩, p6, p7⟩
  go_wp2_with fail
  refine (maps_keys mb _).mono ?_
  rintro e w3 ⟨rfl, h3⟩
  have CO := collect_any (w := w3) (Bm := w2.heap.size) (mb := mb) (ks := keysOf ms) (by rw [h3]; simp) (by rw [h3]; exact (blk_cell (blk_new w2 (.cells #[.map (some mb)] 67)) 0).trans rfl) (by rw [h3]; exact blk_alloc p3 _) p5 p4.keys' (by simp [keysOf]; omega)
  have W3 : Hid (Below w2.heap.size w2 w3 ∧ w3.heap.size = w2.heap.size + 1) := Lib.hid (by rw [h3]; exact ⟨(Below.refl _ _).alloc (Nat.le_refl _) _, by simp⟩)
  clear h3
  go_wp2_with fail
  refine CO.mono ?_
  rintro e w4 ⟨v, ss, rfl, q1, q2, q3⟩
  obtain ⟨A, c, rfl⟩ := ord_len (row_at q2)
  obtain ⟨s2, hs2⟩ : ∃ s2, s2 = w2.heap.size := ⟨_, rfl⟩
  have hz2 := W3.out.1.size
  have hz3 := W3.out.2
  have HH : Hid (Has (fun x => (F x ∨ w.heap.size ≤ x ∧ x < w3.heap.size) ∨ w4.heap.size ≤ x) b most 1 (dropped (pg pc) ms (ss.take 0)) h m w4) := by
    have a1 : Holds (fun x => (F x ∨ w.heap.size ≤ x) ∧ x < w2.heap.size) b most 1 ms h m w2 := Holds.mono ⟨.inl hown, ⟨_, _, p1, .inr ⟨mb, rfl, rfl, p2, es, clock, p3, p4, p5⟩, p6.step (fun _ _ _ _ => rfl) (fun _ hx _ => .inl hx)⟩, hone⟩ (fun x hx hl => ⟨hx, hl⟩)
    exact Lib.hid (Has.of ((a1.below W3.out.1).below q3) (fun x hx _ => .inl (hx.1.imp id (fun h => ⟨h, by omega⟩))))
  have ROW := Lib.hid (row_at q2)
  have PM := Lib.hid q1
  have B4 := Lib.hid ((p7.trans (Mod.of_below W3.out.1)).trans (Mod.of_below q3))
  clear p1 p2 p3 p4 p5 p6 hb hM hO CO q2 q1
  go_wp2
  go_loopw [13, 5] (fun i nn wr => ∃ q : Nat, q ≤ ss.length ∧ i = .int .i64 q ∧ nn = .int .i64 ((ss.take q).filter (pg pc)).length ∧ Hid (Has (fun x => (F x ∨ w.heap.size ≤ x ∧ x < w3.heap.size) ∨ w4.heap.size ≤ x) b most 1 (dropped (pg pc) ms (ss.take q)) h m wr ∧ Mod (fun x => (F x ∨ w.heap.size ≤ x ∧ x < w3.heap.size) ∨ w4.heap.size ≤ x) w4 wr)) (fun i _ _ => ss.length - (intOf i).toNat)
  case atStart => exact ⟨0, Nat.zero_le _, rfl, rfl, Lib.hid ⟨HH.out, Mod.refl _ _⟩⟩
  case round =>
    obtain ⟨q, hq, rfl, rfl, HQ⟩ := hrel
    clear HH
    have hsz4 : w.heap.size ≤ w4.heap.size := B4.out.size
    have hsw : w.heap.size ≤ w3.heap.size := by have := p7.size; omega
    by_cases hlt : q < ss.length
    · obtain ⟨k, hk⟩ : ∃ k, ss[q]? = some k := ⟨_, List.getElem?_eq_getElem hlt⟩
      rcases id ROW.out with ⟨_, hnil⟩ | ⟨g, cap, cur, hv, ⟨hg1, hg2⟩, hgb, _, _, _, hcur⟩
      · rw [hnil] at hlt; simp at hlt
      · injection hv with hA hB hC
        subst hA
        subst hC
        clear hB
        have hgr : wr.heap[g]? = some (.cells cur 75 (0, 0)) := (HQ.out.2.keep g hg2 (fun hx => by rcases hx with (hx | hx) | hx; exact absurd (hF g hx) (by omega); omega; omega)).trans hgb
        have c0 : wr.cell? ⟨g, q * 2, none⟩ = some (.int .u32 k.1) := (blk_cell hgr _).trans (hcur q k hk).1
        have c1 : wr.cell? ⟨g, q * 2 + 1, none⟩ = some (.int .i64 k.2) := (blk_cell hgr _).trans (hcur q k hk).2
        clear hgr hcur hgb
        have hss : ss.length ≤ 1000 := by have := PM.out.length_eq; simp [keysOf] at this; omega
        have hcl : ((ss.take q).filter (pg pc)).length ≤ 1000 := Nat.le_trans (List.length_filter_le _ _) (by simp; omega)
        have htk : ss.take (q + 1) = ss.take q ++ [k] := by rw [List.take_add_one, hk]; rfl
        have hdl : ∀ (l : List K), (dropped (pg pc) ms l).length ≤ ms.length := dropped_le (pg pc) ms
        by_cases hp : pg pc k = true
        · have hpe : (k.1.tdiv 256 % 4294967296 == pc.tdiv 256 % 4294967296) = true := hp
          have RM := remove_has k (HQ.out.1.below ((Below.refl wr.heap.size wr).alloc (Nat.le_refl _) (.cells #[.int .u32 k.1, .int .i64 k.2] 75))) (fun x hx => .inr (by have := HQ.out.2.size; simp at hx; omega)) (by have := hdl (ss.take q); omega)
          unfold kv at RM
          go_wp2_with fail
          refine RM.mono ?_
          clear RM
          rintro e w5 ⟨rfl, r1, r2⟩
          have H5 := Lib.hid (And.intro r1 ((HQ.out.2.trans (Mod.of_below ((Below.refl wr.heap.size wr).alloc (Nat.le_refl _) (.cells #[.int .u32 k.1, .int .i64 k.2] 75)))).trans r2))
          clear r1 r2
          go_wp2
          go_roundw
          case rel => exact ⟨q + 1, by omega, by go_num, by rw [htk, List.filter_append, List.filter_cons_of_pos hp, List.length_append]; go_num, by rw [htk, dropped_snoc, if_pos hp]; exact H5⟩
          case measure => simp [intOf]; omega
        · have hpe : (k.1.tdiv 256 % 4294967296 == pc.tdiv 256 % 4294967296) = false := by simpa [pg] using hp
          have H5 := Lib.hid (And.intro (HQ.out.1.below ((Below.refl wr.heap.size wr).alloc (Nat.le_refl _) (.cells #[.int .u32 k.1, .int .i64 k.2] 75))) (HQ.out.2.trans (Mod.of_below ((Below.refl wr.heap.size wr).alloc (Nat.le_refl _) (.cells #[.int .u32 k.1, .int .i64 k.2] 75)))))
          go_wp2
          go_roundw
          case rel => exact ⟨q + 1, by omega, by go_num, by rw [htk, List.filter_append, List.filter_cons_of_neg hp, List.filter_nil, List.append_nil], by rw [htk, dropped_snoc, if_neg hp]; exact H5⟩
          case measure => simp [intOf]; omega
    · have hqe : q = ss.length := by omega
      subst hqe
      rw [List.take_length] at HQ ⊢
      go_wp2
      go_ret
      exact ⟨ss, PM.out, rfl, HQ.out.1.mono (fun x hx => by rcases hx with (hx | hx) | hx; exact .inl hx; exact .inr hx.1; exact .inr (by omega)), (B4.out.mono (fun x hx => by rw [hx]; exact .inl hown)).trans (HQ.out.2.mono (fun x hx => by rcases hx with (hx | hx) | hx; exact .inl hx; exact .inr hx.1; exact .inr (by omega)))⟩
end
end Go.Proofs.Ytnmfmcjgjjanfaa.Cache
