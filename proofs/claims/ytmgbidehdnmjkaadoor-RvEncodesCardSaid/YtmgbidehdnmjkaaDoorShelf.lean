/-
  DERIVED: THE SHELF's CONTRACTS AT THIS DUMP, IN PLAIN WORDS (tools/lay-plain.mjs out of 'TrydShelf.lean', which tools/lay-shelf.mjs wrote): THE SAME DECLARATIONS UNDER THE SAME NAMES: 'import', 'namespace', 'open', 'def', 'theorem' AND NOTHING ELSE: no command of the shelf's: FOR A HAND-IN. Each laying: the table of numbers ('.._ren') and one theorem, a field a fact of the dump's own or the kernel's comparison; each contract: ONE APPLICATION.
-/
import Derived.Shelf.LaysM
import Derived.Shelf.Strings.SplitShaped
import Derived.Test.YtmgbidehdnmjkaaDoorProg
namespace Go.Proofs
open Go.Shelf
def Tryd.laysM157_ren : Go.Shelf.Ren := ⟨fun | 157 => 46 | 229 => 47 | 199 => 48 | 261 => 49 | 311 => 50 | 312 => 51 | n => n, fun | 9 => 9 | 31 => 58 | 3 => 3 | 5 => 5 | 4 => 4 | 119 => 72 | 0 => 0 | 40 => 74 | 152 => 75 | 21 => 21 | 154 => 77 | 51 => 22 | 141 => 79 | 196 => 83 | 193 => 80 | 198 => 86 | 49 => 84 | 194 => 81 | 201 => 89 | 226 => 91 | 46 => 38 | 227 => 92 | n => n, fun | 0 => 0 | 6 => 1 | n => n⟩
theorem Tryd.laysM157 : Go.Proofs.LaysM.n157 Tryd.prog Tryd.laysM157_ren := {
  mixed := by kernel_rfl
  f157 := Tryd.func46.trans (congrArg some (by kernel_rfl))
  f199 := Tryd.func48.trans (congrArg some (by kernel_rfl))
  f229 := Tryd.func47.trans (congrArg some (by kernel_rfl))
  f261 := Tryd.func49.trans (congrArg some (by kernel_rfl))
  f311 := Tryd.func50.trans (congrArg some (by kernel_rfl))
  f312 := Tryd.func51.trans (congrArg some (by kernel_rfl))
  t0 := Tryd.underlying0
  a0 := Tryd.isAgg0
  z0 := Tryd.sizeOf0
  v0 := Tryd.zeroValue0
  t3 := Tryd.underlying3
  a3 := Tryd.isAgg3
  z3 := Tryd.sizeOf3
  v3 := Tryd.zeroValue3
  t4 := Tryd.underlying4
  a4 := Tryd.isAgg4
  z4 := Tryd.sizeOf4
  v4 := Tryd.zeroValue4
  t5 := Tryd.underlying5
  a5 := Tryd.isAgg5
  z5 := Tryd.sizeOf5
  v5 := Tryd.zeroValue5
  t9 := Tryd.underlying9
  a9 := Tryd.isAgg9
  z9 := Tryd.sizeOf9
  v9 := Tryd.zeroValue9
  t21 := Tryd.underlying21
  a21 := Tryd.isAgg21
  z21 := Tryd.sizeOf21
  v21 := Tryd.zeroValue21
  t31 := Tryd.underlying58
  a31 := Tryd.isAgg58
  z31 := Tryd.sizeOf58
  v31 := Tryd.zeroValue58
  t40 := Tryd.underlying74
  a40 := Tryd.isAgg74
  z40 := Tryd.sizeOf74
  v40 := Tryd.zeroValue74
  t46 := Tryd.underlying38
  a46 := Tryd.isAgg38
  z46 := Tryd.sizeOf38
  v46 := Tryd.zeroValue38
  t49 := Tryd.underlying84
  a49 := Tryd.isAgg84
  z49 := Tryd.sizeOf84
  v49 := Tryd.zeroValue84
  t51 := Tryd.underlying22
  a51 := Tryd.isAgg22
  z51 := Tryd.sizeOf22
  v51 := Tryd.zeroValue22
  t119 := Tryd.underlying72
  a119 := Tryd.isAgg72
  z119 := Tryd.sizeOf72
  t141 := Tryd.underlying79
  a141 := Tryd.isAgg79
  z141 := Tryd.sizeOf79
  v141 := Tryd.zeroValue79
  t152 := Tryd.underlying75
  a152 := Tryd.isAgg75
  z152 := Tryd.sizeOf75
  v152 := Tryd.zeroValue75
  t154 := Tryd.underlying77
  a154 := Tryd.isAgg77
  z154 := Tryd.sizeOf77
  v154 := Tryd.zeroValue77
  t193 := Tryd.underlying80
  a193 := Tryd.isAgg80
  z193 := Tryd.sizeOf80
  v193 := Tryd.zeroValue80
  t194 := Tryd.underlying81
  a194 := Tryd.isAgg81
  z194 := Tryd.sizeOf81
  v194 := Tryd.zeroValue81
  t196 := Tryd.underlying83
  a196 := Tryd.isAgg83
  z196 := Tryd.sizeOf83
  v196 := Tryd.zeroValue83
  t198 := Tryd.underlying86
  a198 := Tryd.isAgg86
  z198 := Tryd.sizeOf86
  v198 := Tryd.zeroValue86
  t201 := Tryd.underlying89
  a201 := Tryd.isAgg89
  z201 := Tryd.sizeOf89
  v201 := Tryd.zeroValue89
  t226 := Tryd.underlying91
  a226 := Tryd.isAgg91
  z226 := Tryd.sizeOf91
  v226 := Tryd.zeroValue91
  t227 := Tryd.underlying92
  a227 := Tryd.isAgg92
  z227 := Tryd.sizeOf92
  v227 := Tryd.zeroValue92
  g0 := by kernel_rfl
  g6 := by kernel_rfl
  i0 := by kernel_rfl
  i3 := by kernel_rfl
  i4 := by kernel_rfl
  i5 := by kernel_rfl
  i9 := by kernel_rfl
  i21 := by kernel_rfl
  i31 := by kernel_rfl
  i40 := by kernel_rfl
  i46 := by kernel_rfl
  i49 := by kernel_rfl
  i51 := by kernel_rfl
  i141 := by kernel_rfl
  i152 := by kernel_rfl
  i154 := by kernel_rfl
  i193 := by kernel_rfl
  i194 := by kernel_rfl
  i196 := by kernel_rfl
  i198 := by kernel_rfl
  i201 := by kernel_rfl
  i226 := by kernel_rfl
  i227 := by kernel_rfl
  m0 := by kernel_rfl
  m6 := by kernel_rfl }
open Go.RowKit Go.Lib in
/-- strings.Fields on ASCII bytes. (The table: 'Lib.TabIs', as strings.TrimSpace's contract asks it.) (LAID: no walk: one application.) -/
theorem Tryd.strings_Fields_laid (s : ByteArray) (w : World) (hs : s.size < 4294967281) (hascii : ∀ (j : Nat) b, s.data.toList[j]? = some b → b.toNat < 128) (htab : Lib.TabIs Tryd.prog w "strings.asciiSpace" .u8 Lib.asciiSpaceTab) :
    Calls Tryd.prog 46 #[.string s] w fun e w' =>
      e = .returned (.slice (some ⟨w.heap.size, 0, none⟩) (Lib.fields s.data.toList).length (Lib.fields s.data.toList).length) ∧ w' = w.alloc (.cells ((Lib.fields s.data.toList).map fun l => Value.string ⟨l.toArray⟩).toArray 9) := Any.strings_Fields_laid Tryd.laysM157 s w hs hascii htab
end Go.Proofs
