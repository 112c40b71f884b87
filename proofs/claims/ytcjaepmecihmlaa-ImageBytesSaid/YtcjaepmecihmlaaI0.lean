/- The values that the image laws speak of (its lines began as print.sh's). -/
import Derived.Test.YtcjaepmecihmlaaProg
import Derived.Below
import Derived.Deep.Draws
import Derived.Deep.AppendLies
import Derived.Maps.AppendAt
import Derived.OwnWalk
import Derived.Laws.BytesArg
import Derived.Laws.MakeOwn
import Derived.Laws.OwnMore
import Derived.Deep.OwnRows
import Derived.Tactics
import Derived.Lib.ConvBytes
import Derived.Laws.Slices
import Derived.WalkKit
import Derived.KernelRfl
import Derived.RowKit3
import Derived.Deep.LoopGhost
import Derived.Deep.QuietTactic
import Derived.BigQuiet
import Derived.WideLaws
import Derived.Deep.DeepCutAuto
import Derived.Deep.CutBlock
import Derived.Deep.RegionHeld3
import Derived.Laws.Rows
import Derived.Lib.AppendStr
import Derived.ArgAppend
import Derived.Laws.IdiomCopy
import Derived.OrdersHeld
import Derived.Laws.BitsLemmas
import Derived.RowKit
import Derived.Test.YtcjaepmecihmlaaWWords
import Derived.Test.YtcjaepmecihmlaaWLast
import Derived.Test.YtcjaepmecihmlaaWTab
import Derived.Test.YtcjaepmecihmlaaWQPut
import Derived.Test.YtcjaepmecihmlaaWApart
import Derived.Test.YtcjaepmecihmlaaWArr
import Derived.Test.YtcjaepmecihmlaaWZeros
import Derived.Test.YtcjaepmecihmlaaWFoot
import Derived.Test.YtcjaepmecihmlaaWKept
import Derived.Test.YtcjaepmecihmlaaWShare
import Derived.Test.YtcjaepmecihmlaaWN
import Derived.Test.YtcjaepmecihmlaaWRepsOne
import Derived.Test.YtcjaepmecihmlaaWGuard
import Derived.Test.YtcjaepmecihmlaaWNEv
import Derived.Test.YtcjaepmecihmlaaWMore
namespace Go.Proofs.Ytcjaepmecihmlaa.Img
open Go.RowKit Go.Proofs.YtcjaepmecihmlaaW.PrintWords Go.Proofs.YtcjaepmecihmlaaW.PrintLast Go.Proofs.YtcjaepmecihmlaaW.PrintMore
attribute [local go_sem] zcp zcn zcw zcv zcc zcb zco zcm   -- for this text's walks alone
set_option linter.unusedVariables false
set_option linter.unusedSimpArgs false
def errW : Option Int → Value
  | none => .nilIface
  | some c => .iface 0 (.int .i64 c)
theorem zaz : errW none = .nilIface := rfl
theorem zay (c : Int) : errW (some c) = .iface 0 (.int .i64 c) := rfl
theorem info5 : (Try.prog.info? 5).map (fun i => (i.zero, i.size, i.bytes)) = some (some (.int .u8 0), 1, 1) := by kernel_rfl
theorem info30 : (Try.prog.info? 30).map (fun i => (i.zero, i.size, i.bytes)) = some (some (.agg #[(.int .u32 0), (.int .u32 0), (.int .i64 0), (.slice none 0 0)]), 4, 40) := by kernel_rfl
theorem info65 : (Try.prog.info? 65).map (fun i => (i.zero, i.size, i.bytes)) = some (some (.agg #[(.int .u32 0), (.int .u32 0), (.int .i64 0), (.slice none 0 0)]), 4, 40) := by kernel_rfl
-- the values' own types
/-! #### struct type 30 -/
structure S30 where
  f0 : Int
  f1 : Int
  f2 : Int
  f3 : (List Int)
def z30 : S30 := ⟨(0 : Int), (0 : Int), (0 : Int), ([] : List Int)⟩
def k30 : Kd S30 := Kd.iso (Kd.pair (Kd.int .u32) (Kd.pair (Kd.int .u32) (Kd.pair (Kd.int .i64) (Kd.slice 5 (Kd.int .u8))))) (fun x : S30 => (x.f0, x.f1, x.f2, x.f3))
theorem zgq {w : World} {x : S30} {cs : List Value} (h : k30.K w x cs) : ∃ A3 c3, cs = [.int .u32 x.f0, .int .u32 x.f1, .int .i64 x.f2, .slice A3 x.f3.length c3] ∧ x.f3.length ≤ c3 ∧ (Kd.int .u8).C w A3 x.f3.length x.f3 := by
  obtain ⟨_, _, rfl, rfl, ⟨_, _, rfl, rfl, ⟨_, _, rfl, rfl, ⟨A3, c3, rfl, l3, g3⟩⟩⟩⟩ := h
  exact ⟨A3, c3, rfl, l3, g3⟩
theorem k30_mk (w : World) (x : S30) {A3 : Option Addr} {c3 : Nat} (l3 : x.f3.length ≤ c3) (g3 : (Kd.int .u8).C w A3 x.f3.length x.f3) : k30.K w x [.int .u32 x.f0, .int .u32 x.f1, .int .i64 x.f2, .slice A3 x.f3.length c3] := ⟨[.int .u32 x.f0], [.int .u32 x.f1, .int .i64 x.f2, .slice A3 x.f3.length c3], rfl, rfl, ⟨[.int .u32 x.f1], [.int .i64 x.f2, .slice A3 x.f3.length c3], rfl, rfl, ⟨[.int .i64 x.f2], [.slice A3 x.f3.length c3], rfl, rfl, ⟨A3, c3, rfl, l3, g3⟩⟩⟩⟩
theorem k30_mkM (w : World) (base : Nat) (ok : Nat → Prop) (x : S30) {v3 : Value} (g3 : (Kd.int .u8).R 5 w base ok v3 x.f3) : k30.M w base ok x [.int .u32 x.f0, .int .u32 x.f1, .int .i64 x.f2, v3] := ⟨[.int .u32 x.f0], [.int .u32 x.f1, .int .i64 x.f2, v3], rfl, rfl, ⟨[.int .u32 x.f1], [.int .i64 x.f2, v3], rfl, rfl, ⟨[.int .i64 x.f2], [v3], rfl, rfl, ⟨v3, rfl, g3⟩⟩⟩⟩
theorem k30_openF {W : World} {ok : Nat → Prop} {x : S30} {cs : List Value} (h : Kd.FK k30 W ok x cs) : ∃ A3 c3, cs = [.int .u32 x.f0, .int .u32 x.f1, .int .i64 x.f2, .slice A3 x.f3.length c3] ∧ x.f3.length ≤ c3 ∧ Kd.F (Kd.int .u8) W ok A3 x.f3.length x.f3 := by
  obtain ⟨A3, c3, rfl, l3, _⟩ := zgq (Kd.zf6 h)
  exact ⟨A3, c3, rfl, l3, (fun W' hW => by obtain ⟨A3_, c3_, he, l3_, g3_⟩ := zgq (h W' hW); injection (Option.some.inj (show some (Value.slice A3 x.f3.length c3) = some (Value.slice A3_ x.f3.length c3_) from congrArg (fun l => l[3]?) he)) with ha_ _ _; rw [ha_]; exact g3_)⟩
theorem k30_mkF (W : World) (ok : Nat → Prop) (x : S30) {A3 : Option Addr} {c3 : Nat} (l3 : x.f3.length ≤ c3) (g3 : Kd.F (Kd.int .u8) W ok A3 x.f3.length x.f3) : Kd.FK k30 W ok x [.int .u32 x.f0, .int .u32 x.f1, .int .i64 x.f2, .slice A3 x.f3.length c3] := fun W2 hW => k30_mk W2 x l3 (g3 W2 hW)
def zan (xs : List S30) (i : Int) : S30 := xs.getD i.toNat z30
theorem zd4 {w : World} {A : Option Addr} {n : Nat} {xs : List S30} (h : Kd.C k30 w A n xs) (i : Int) (h0 : 0 ≤ i) (h1 : i < n) : ∃ ad A3 c3, A = some ad ∧ w.cell? (ad.add (i.toNat * 4)) = some (.int .u32 (zan xs i).f0) ∧ w.cell? ⟨(ad.add (i.toNat * 4)).block, (ad.add (i.toNat * 4)).off + 1, none⟩ = some (.int .u32 (zan xs i).f1) ∧ w.cell? ⟨(ad.add (i.toNat * 4)).block, (ad.add (i.toNat * 4)).off + 2, none⟩ = some (.int .i64 (zan xs i).f2) ∧ w.cell? ⟨(ad.add (i.toNat * 4)).block, (ad.add (i.toNat * 4)).off + 3, none⟩ = some (.slice A3 (zan xs i).f3.length c3) ∧ (zan xs i).f3.length ≤ c3 ∧ (Kd.int .u8).C w A3 (zan xs i).f3.length (zan xs i).f3 := by
  obtain ⟨ad, c, e, _, hK, hc0⟩ := Kd.C_get h z30 i h0 h1
  have hc : ∀ j u, c[j]? = some u → w.cell? (ad.add (i.toNat * 4 + j)) = some u := hc0
  obtain ⟨A3, c3, rfl, l3, g3⟩ := zgq hK
  exact ⟨ad, A3, c3, e, hc 0 _ rfl, by rw [← zc7 _ _ 1 (by omega)]; exact hc 1 _ rfl, by rw [← zc7 _ _ 2 (by omega)]; exact hc 2 _ rfl, by rw [← zc7 _ _ 3 (by omega)]; exact hc 3 _ rfl, l3, g3⟩
/-! #### struct type 65 -/
structure S65 where
  f0 : Int
  f1 : Int
  f2 : Int
  f3 : (List Int)
def z65 : S65 := ⟨(0 : Int), (0 : Int), (0 : Int), ([] : List Int)⟩
def k65 : Kd S65 := Kd.iso (Kd.pair (Kd.int .u32) (Kd.pair (Kd.int .u32) (Kd.pair (Kd.int .i64) (Kd.slice 5 (Kd.int .u8))))) (fun x : S65 => (x.f0, x.f1, x.f2, x.f3))
theorem zgp {w : World} {x : S65} {cs : List Value} (h : k65.K w x cs) : ∃ A3 c3, cs = [.int .u32 x.f0, .int .u32 x.f1, .int .i64 x.f2, .slice A3 x.f3.length c3] ∧ x.f3.length ≤ c3 ∧ (Kd.int .u8).C w A3 x.f3.length x.f3 := by
  obtain ⟨_, _, rfl, rfl, ⟨_, _, rfl, rfl, ⟨_, _, rfl, rfl, ⟨A3, c3, rfl, l3, g3⟩⟩⟩⟩ := h
  exact ⟨A3, c3, rfl, l3, g3⟩
theorem k65_mk (w : World) (x : S65) {A3 : Option Addr} {c3 : Nat} (l3 : x.f3.length ≤ c3) (g3 : (Kd.int .u8).C w A3 x.f3.length x.f3) : k65.K w x [.int .u32 x.f0, .int .u32 x.f1, .int .i64 x.f2, .slice A3 x.f3.length c3] := ⟨[.int .u32 x.f0], [.int .u32 x.f1, .int .i64 x.f2, .slice A3 x.f3.length c3], rfl, rfl, ⟨[.int .u32 x.f1], [.int .i64 x.f2, .slice A3 x.f3.length c3], rfl, rfl, ⟨[.int .i64 x.f2], [.slice A3 x.f3.length c3], rfl, rfl, ⟨A3, c3, rfl, l3, g3⟩⟩⟩⟩
theorem k65_mkM (w : World) (base : Nat) (ok : Nat → Prop) (x : S65) {v3 : Value} (g3 : (Kd.int .u8).R 5 w base ok v3 x.f3) : k65.M w base ok x [.int .u32 x.f0, .int .u32 x.f1, .int .i64 x.f2, v3] := ⟨[.int .u32 x.f0], [.int .u32 x.f1, .int .i64 x.f2, v3], rfl, rfl, ⟨[.int .u32 x.f1], [.int .i64 x.f2, v3], rfl, rfl, ⟨[.int .i64 x.f2], [v3], rfl, rfl, ⟨v3, rfl, g3⟩⟩⟩⟩
theorem k65_mkF (W : World) (ok : Nat → Prop) (x : S65) {A3 : Option Addr} {c3 : Nat} (l3 : x.f3.length ≤ c3) (g3 : Kd.F (Kd.int .u8) W ok A3 x.f3.length x.f3) : Kd.FK k65 W ok x [.int .u32 x.f0, .int .u32 x.f1, .int .i64 x.f2, .slice A3 x.f3.length c3] := fun W2 hW => k65_mk W2 x l3 (g3 W2 hW)
def zal (xs : List S65) (i : Int) : S65 := xs.getD i.toNat z65
theorem zc6 {w : World} {A : Option Addr} {n : Nat} {xs : List S65} (h : Kd.C k65 w A n xs) (i : Int) (h0 : 0 ≤ i) (h1 : i < n) : ∃ ad A3 c3, A = some ad ∧ w.cell? (ad.add (i.toNat * 4)) = some (.int .u32 (zal xs i).f0) ∧ w.cell? ⟨(ad.add (i.toNat * 4)).block, (ad.add (i.toNat * 4)).off + 1, none⟩ = some (.int .u32 (zal xs i).f1) ∧ w.cell? ⟨(ad.add (i.toNat * 4)).block, (ad.add (i.toNat * 4)).off + 2, none⟩ = some (.int .i64 (zal xs i).f2) ∧ w.cell? ⟨(ad.add (i.toNat * 4)).block, (ad.add (i.toNat * 4)).off + 3, none⟩ = some (.slice A3 (zal xs i).f3.length c3) ∧ (zal xs i).f3.length ≤ c3 ∧ (Kd.int .u8).C w A3 (zal xs i).f3.length (zal xs i).f3 := by
  obtain ⟨ad, c, e, _, hK, hc0⟩ := Kd.C_get h z65 i h0 h1
  have hc : ∀ j u, c[j]? = some u → w.cell? (ad.add (i.toNat * 4 + j)) = some u := hc0
  obtain ⟨A3, c3, rfl, l3, g3⟩ := zgp hK
  exact ⟨ad, A3, c3, e, hc 0 _ rfl, by rw [← zc7 _ _ 1 (by omega)]; exact hc 1 _ rfl, by rw [← zc7 _ _ 2 (by omega)]; exact hc 2 _ rfl, by rw [← zc7 _ _ 3 (by omega)]; exact hc 3 _ rfl, l3, g3⟩
/-- Short names: lists of them stand often. -/
abbrev tt : Bool := true
abbrev ff : Bool := false
end Go.Proofs.Ytcjaepmecihmlaa.Img
