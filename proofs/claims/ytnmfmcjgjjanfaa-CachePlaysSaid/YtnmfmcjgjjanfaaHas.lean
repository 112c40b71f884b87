/- The cache behind a wall: its blocks are in P, all else is as it was. -/
import Derived.Test.YtnmfmcjgjjanfaaSmall
namespace Go.Proofs.Ytnmfmcjgjjanfaa.Cache
open Go Go.RowKit Go.Proofs.YtnmfmcjgjjanfaaW.PrintWords Go.Proofs.YtnmfmcjgjjanfaaW.PrintLast Go.Proofs.YtnmfmcjgjjanfaaW.PrintMore Go.Proofs.Ytnmfmcjgjjanfaa.Pr Go.Proofs.Ytnmfmcjgjjanfaa.Lits
set_option linter.unusedVariables false
set_option linter.unusedSimpArgs false
def Has (P : Nat → Prop) (b : Nat) (most d : Int) (ms : List En) (h m : Int) (w : World) : Prop := ∃ F, (∀ x, F x → P x ∧ x < w.heap.size) ∧ Holds F b most d ms h m w
def Up (P : Nat → Prop) (w : World) : Prop := ∀ x, w.heap.size ≤ x → P x
section
variable {P P' : Nat → Prop} {w w1 : World} {ms : List En} {b : Nat} {most d h m : Int}
theorem Has.of {F : Nat → Prop} (hh : Holds F b most d ms h m w) (hF : ∀ x, F x → x < w.heap.size → P x) : Has P b most d ms h m w := ⟨fun x => F x ∧ x < w.heap.size, fun x hx => ⟨hF x hx.1 hx.2, hx.2⟩, hh.mono (fun x hx hl => ⟨hx, hl⟩)⟩
theorem Has.mono (hh : Has P b most d ms h m w) (hP : ∀ x, P x → P' x) : Has P' b most d ms h m w := let ⟨F, h1, h2⟩ := hh; ⟨F, fun x hx => ⟨hP x (h1 x hx).1, (h1 x hx).2⟩, h2⟩
theorem Has.mod {S : Nat → Prop} (hh : Has P b most d ms h m w) (hm : Mod S w w1) (hs : ∀ x, P x → x < w.heap.size → ¬ S x) : Has P b most d ms h m w1 :=
  let ⟨F, h1, h2⟩ := hh; ⟨F, fun x hx => ⟨(h1 x hx).1, Nat.lt_of_lt_of_le (h1 x hx).2 hm.size⟩, h2.mod hm (fun x hx => hs x (h1 x hx).1 (h1 x hx).2)⟩
theorem Has.below (hh : Has P b most d ms h m w) (hb : Below w.heap.size w w1) : Has P b most d ms h m w1 := hh.mod (S := fun _ => False) (Mod.of_below hb) (fun _ _ _ h => h)
theorem Has.new (most : Int) (w : World) (hP : P w.heap.size) : Has P w.heap.size most 0 [] 0 0 (w.alloc (newO most)) := Has.of (holds_new most w) (fun x hx _ => by rw [hx]; exact hP)
theorem Up.mono {w' : World} (h : Up P w) (hs : w.heap.size ≤ w'.heap.size) : Up P w' := fun x hx => h x (Nat.le_trans hs hx)
theorem put_has (k : K) (gen : Int) (A : Option Addr) (c : Nat) (xs : List S25) (hh : Has P b most d ms h m w) (hu : Up P w) (hn : ms.length ≤ 1000)
    (hL : ∀ w', Mod P w w' → Kd.C k25 w' A xs.length xs) (hc : xs.length ≤ c) (hx : xs.length ≤ 1000000) :
    Calls Try.prog 10 #[.pointer (some ⟨b, 0, none⟩), .int .u32 k.1, .int .i64 k.2, .int .u32 gen, .slice A xs.length c] w fun e w' => e = .returned (.tuple #[]) ∧ Has P b most 1 (putL most ms k gen xs) h m w' ∧ Mod P w w' := by
  obtain ⟨F, h1, h2⟩ := hh
  refine (put_any k gen A c xs h2 hn (fun x hx => (h1 x hx).2) (fun w' hm => hL w' (hm.mono (fun x hx => (h1 x hx).1))) hc hx).mono ?_
  rintro e w' ⟨rfl, p1, p2⟩
  exact ⟨rfl, Has.of p1 (fun x hx _ => hx.elim (fun h => (h1 x h).1) (hu x)), p2.mono (fun x hx => (h1 x hx).1)⟩
theorem get_no_has (k : K) (gen : Int) (hk : idx ms k = none) (hh : Has P b most d ms h m w) (hu : Up P w) (hn : ms.length ≤ 1000) (hh0 : 0 ≤ h) (hh1 : h ≤ 1000000) (hm0 : 0 ≤ m) (hm1 : m ≤ 1000000) :
    Calls Try.prog 11 #[.pointer (some ⟨b, 0, none⟩), .int .u32 k.1, .int .i64 k.2, .int .u32 gen] w fun e w' => e = .returned (.tuple #[.slice none 0 0, .bool false]) ∧ Has P b most 1 ms h (m + 1) w' ∧ Mod P w w' := by
  obtain ⟨F, h1, h2⟩ := hh
  refine (get_no k gen hk h2 hn (fun x hx => (h1 x hx).2) hh0 hh1 hm0 hm1).mono ?_
  rintro e w' ⟨rfl, p1, p2⟩
  exact ⟨rfl, Has.of p1 (fun x hx _ => hx.elim (fun h => (h1 x h).1) (hu x)), p2.mono (fun x hx => (h1 x hx).1)⟩
theorem get_miss_has (k : K) (gen : Int) (j : Nat) (kk : K) (q : Int) (xs : List S25) (hk : idx ms k = some j) (hen : ms[j]? = some (kk, q, xs)) (hg : ¬ q = gen) (hh : Has P b most d ms h m w) (hu : Up P w) (hn : ms.length ≤ 1000) (hh0 : 0 ≤ h) (hh1 : h ≤ 1000000) (hm0 : 0 ≤ m) (hm1 : m ≤ 1000000) :
    Calls Try.prog 11 #[.pointer (some ⟨b, 0, none⟩), .int .u32 k.1, .int .i64 k.2, .int .u32 gen] w fun e w' => e = .returned (.tuple #[.slice none 0 0, .bool false]) ∧ Has P b most 1 (del ms k) h (m + 1) w' ∧ Mod P w w' := by
  obtain ⟨F, h1, h2⟩ := hh
  refine (get_miss k gen j kk q xs hk hen hg h2 hn (fun x hx => (h1 x hx).2) hh0 hh1 hm0 hm1).mono ?_
  rintro e w' ⟨rfl, p1, p2⟩
  exact ⟨rfl, Has.of p1 (fun x hx _ => hx.elim (fun h => (h1 x h).1) (hu x)), p2.mono (fun x hx => (h1 x hx).1)⟩
theorem get_hit_has (k : K) (gen : Int) (j : Nat) (kk : K) (xs : List S25) (hk : idx ms k = some j) (hen : ms[j]? = some (kk, gen, xs)) (hx : xs.length ≤ 1000000) (hh : Has P b most d ms h m w) (hu : Up P w) (hn : ms.length ≤ 1000) (hh0 : 0 ≤ h) (hh1 : h ≤ 1000000) (hm0 : 0 ≤ m) (hm1 : m ≤ 1000000) :
    Calls Try.prog 11 #[.pointer (some ⟨b, 0, none⟩), .int .u32 k.1, .int .i64 k.2, .int .u32 gen] w fun e w' => ∃ v s, e = .returned (.tuple #[v, .bool true]) ∧ w.heap.size ≤ s ∧ s ≤ w'.heap.size ∧ Kd.R k25 25 w' s (fun _ => True) v xs ∧ Has (fun x => P x ∧ x < s) b most 1 ms (h + 1) m w' ∧ Mod P w w' := by
  obtain ⟨F, h1, h2⟩ := hh
  refine (get_hit k gen j kk xs hk hen hx h2 hn (fun x hx => (h1 x hx).2) hh0 hh1 hm0 hm1).mono ?_
  rintro e w' ⟨v, s, rfl, p0, p1, p2, p3, p4⟩
  exact ⟨v, s, rfl, p0, p1, p2, Has.of p3 (fun x hx _ => ⟨hx.1.elim (fun h => (h1 x h).1) (hu x), hx.2⟩), p4.mono (fun x hx => (h1 x hx).1)⟩
theorem len_has (hh : Has P b most d ms h m w) : Calls Try.prog 15 #[.pointer (some ⟨b, 0, none⟩)] w fun e w' => e = .returned (.int .i64 ms.length) ∧ w = w' := let ⟨_, _, h2⟩ := hh; len_any h2
theorem hits_has (hh : Has P b most d ms h m w) : Calls Try.prog 14 #[.pointer (some ⟨b, 0, none⟩)] w fun e w' => e = .returned (.int .i64 h) ∧ w = w' := let ⟨_, _, h2⟩ := hh; hits_any h2
theorem misses_has (hh : Has P b most d ms h m w) : Calls Try.prog 18 #[.pointer (some ⟨b, 0, none⟩)] w fun e w' => e = .returned (.int .i64 m) ∧ w = w' := let ⟨_, _, h2⟩ := hh; misses_any h2
def ncs (x : S25) : Array Value := #[.int .i64 x.f0, .int .i64 x.f1, .int .i64 x.f2, .int .i64 x.f3, .int .u32 x.f4]
theorem one_C {g : Nat} {t : TypeId} (x : S25) (h : w.heap[g]? = some (.cells (ncs x) t (0, 0))) : Kd.C k25 w (some ⟨g, 0, none⟩) 1 [x] := by
  refine ⟨rfl, by omega, fun _ => ⟨⟨g, 0, none⟩, rfl, fun j p hj => ⟨(ncs x).toList, rfl, ?_, fun i u hu => ?_⟩⟩⟩
  · have hj0 : j = 0 := by
      have := (List.getElem?_eq_some_iff.1 hj).1
      simp at this; omega
    subst hj0
    have : x = p := by simpa using hj
    rw [← this]; exact k25_mk w x
  · have hj0 : j = 0 := by
      have := (List.getElem?_eq_some_iff.1 hj).1
      simp at this; omega
    subst hj0
    rw [Nat.zero_mul, Nat.zero_add, add_plain, blk_cell h, ← Array.getElem?_toList]
    exact hu
/-- The head of a row of nodes of one's own. -/
theorem R25_head {base : Nat} {ok : Nat → Prop} {v : Value} {x : S25} {r : List S25} (hR : Kd.R k25 25 w base ok v (x :: r)) :
    ∃ g cap cur, v = .slice (some ⟨g, 0, none⟩) (x :: r).length cap ∧ base ≤ g ∧ ok g ∧ w.heap[g]? = some (.cells cur 25 (0, 0)) ∧ cur[0]? = some (.int .i64 x.f0) ∧ cur[1]? = some (.int .i64 x.f1) ∧ cur[2]? = some (.int .i64 x.f2) ∧ cur[3]? = some (.int .i64 x.f3) ∧ cur[4]? = some (.int .u32 x.f4) := by
  obtain ⟨h0, inner, ⟨hl, ho⟩, hr⟩ := hR
  rcases ho with ⟨rfl, hn⟩ | ⟨g, cap, cur, rfl, hg, hb, hcap, hmax, hsz, ht⟩
  · cases hn
  · refine ⟨g, cap, cur, rfl, hg, h0 g (by simp [Value.ownBlock]), hb, ?_⟩
    have e : (inner.drop (0 * 5)).take 5 = [.int .i64 x.f0, .int .i64 x.f1, .int .i64 x.f2, .int .i64 x.f3, .int .u32 x.f4] := k25_openM (hr.2 0 x rfl)
    have f : ∀ q, q < 5 → cur[q]? = ((inner.drop (0 * 5)).take 5)[q]? := fun q hq => by
      have ht2 : cur.toList.take ((x :: r).length * 5) = inner := ht
      rw [List.getElem?_take, if_pos hq, List.getElem?_drop, ← ht2, List.getElem?_take, if_pos (by simp; omega)]
      simp
    refine ⟨?_, ?_, ?_, ?_, ?_⟩ <;> (rw [f _ (by decide), e]; rfl)
theorem R25_at {w1 : World} {base g n c : Nat} {ok : Nat → Prop} {xs : List S25} (hR : Kd.R k25 25 w base ok (.slice (some ⟨g, 0, none⟩) n c) xs) (hg : w1.heap[g]? = w.heap[g]?) : Kd.R k25 25 w1 base ok (.slice (some ⟨g, 0, none⟩) n c) xs := by
  obtain ⟨h0, inner, ho, hr⟩ := hR
  refine ⟨h0, inner, own_move ho (fun k hk => ?_), hr.imp_ (fun _ _ hp => by rw [k25_openM hp]; exact k25_mkM _ _ _ _)⟩
  have : g = k := by simpa [Value.ownBlock] using hk
  rw [← this]; exact hg
theorem R25_some {base : Nat} {ok : Nat → Prop} {v : Value} {xs : List S25} (hR : Kd.R k25 25 w base ok v xs) (hx : 1 ≤ xs.length) :
    ∃ g cap u0 u1 u2 u3 u4, v = .slice (some ⟨g, 0, none⟩) xs.length cap ∧ base ≤ g ∧ g < w.heap.size ∧ (w.cell? ⟨g, 0, none⟩ = some u0 ∧ w.cell? ⟨g, 1, none⟩ = some u1 ∧ w.cell? ⟨g, 2, none⟩ = some u2 ∧ w.cell? ⟨g, 3, none⟩ = some u3 ∧ w.cell? ⟨g, 4, none⟩ = some u4) ∧
      (w.frozen? ⟨g, 0, none⟩ = false ∧ w.frozen? ⟨g, 1, none⟩ = false ∧ w.frozen? ⟨g, 2, none⟩ = false ∧ w.frozen? ⟨g, 3, none⟩ = false ∧ w.frozen? ⟨g, 4, none⟩ = false) := by
  cases xs with
  | nil => simp at hx
  | cons x r =>
    obtain ⟨g, cap, cur, rfl, h1, _, h2, h3, h4, h5, h6, h7⟩ := R25_head hR
    exact ⟨g, cap, _, _, _, _, _, rfl, h1, blk_lt h2, ⟨(blk_cell h2 0).trans h3, (blk_cell h2 1).trans h4, (blk_cell h2 2).trans h5, (blk_cell h2 3).trans h6, (blk_cell h2 4).trans h7⟩, ⟨blk_frozen h2 0, blk_frozen h2 1, blk_frozen h2 2, blk_frozen h2 3, blk_frozen h2 4⟩⟩
theorem Mod.five {w : World} {g : Nat} (a0 a1 a2 a3 a4 : Value) : Mod (· = g) w (((((w.setCell ⟨g, 0, none⟩ a0).setCell ⟨g, 1, none⟩ a1).setCell ⟨g, 2, none⟩ a2).setCell ⟨g, 3, none⟩ a3).setCell ⟨g, 4, none⟩ a4) := by
  have s : ∀ (w1 : World) (i : Nat) (a : Value), Mod (· = g) w w1 → Mod (· = g) w (w1.setCell ⟨g, i, none⟩ a) := fun w1 i a h => Mod.set (p := ⟨g, i, none⟩) h (Or.inl rfl) a
  exact s _ 4 a4 (s _ 3 a3 (s _ 2 a2 (s _ 1 a1 (s _ 0 a0 (Mod.refl (· = g) w)))))
end
end Go.Proofs.Ytnmfmcjgjjanfaa.Cache
