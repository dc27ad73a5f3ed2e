/-
  DERIVED: THE SHELF's CONTRACTS AT THIS DUMP, IN PLAIN WORDS (tools/lay-plain.mjs out of 'TryzShelf.lean', which tools/lay-shelf.mjs wrote): THE SAME DECLARATIONS UNDER THE SAME NAMES: 'import', 'namespace', 'open', 'def', 'theorem' AND NOTHING ELSE: no command of the shelf's: FOR A HAND-IN. Each laying: the table of numbers ('.._ren') and one theorem, a field a fact of the dump's own or the kernel's comparison; each contract: ONE APPLICATION.
-/
import Derived.Shelf.Strings.Builder1
import Derived.Shelf.Strings.Builder2
import Derived.Shelf.Strings.OnBuilder
import Derived.Shelf.Small.Bits
import Derived.Shelf.Strconv.Atoi
import Derived.Shelf.Strconv.Itoa0
import Derived.Shelf.Strconv.Itoa1
import Derived.Shelf.LaysM
import Derived.Shelf.Strconv.Itoa2
import Derived.Shelf.Strconv.Itoa3
import Derived.Shelf.Strconv.AtoiErrFast
import Derived.Shelf.Strconv.ParseIntEmpty
import Derived.Shelf.Strconv.AtoiFail
import Derived.Shelf.Strconv.Clone
import Derived.Shelf.Strconv.SyntaxError
import Derived.Shelf.LaysC
import Derived.Shelf.Strconv.ToError
import Derived.Shelf.Strconv.AtoiErr
import Derived.Shelf.Strconv.ErrVar
import Derived.Shelf.Strconv.Lower
import Derived.Shelf.Strconv.ParseUint10
import Derived.Shelf.Strconv.ParseUint10Empty
import Derived.Shelf.Strconv.ParseUint10Any
import Derived.Shelf.Strconv.ParseInt10
import Derived.Shelf.Strconv.AtoiLong
import Derived.Shelf.Strconv.AtoiInnerAll
import Derived.Shelf.Strconv.RangeError
import Derived.Shelf.Strconv.ToErrorRange
import Derived.Shelf.Strconv.AtoiAll
import Derived.Shelf.Strconv.ErrVarAll
import Derived.Shelf.Strings.Search1
import Derived.Shelf.Strings.Search2
import Derived.Shelf.Strings.Cut
import Derived.Shelf.Strings.Shaped
import Derived.Shelf.Strings.Fields
import Derived.Shelf.Strings.SplitShaped
import Derived.Shelf.Unicode.Latin
import Derived.Shelf.Unicode.Is16White
import Derived.Shelf.Unicode.IsSpaceAny
import Derived.Shelf.Unicode.Is16WhiteD
import Derived.Shelf.Unicode.IsSpaceAnyD
import Derived.Shelf.Strings.FieldsAny
import Derived.Shelf.Strings.FieldsFuncAny
import Derived.Shelf.Unicode.Is16Any
import Derived.Shelf.Unicode.Is32Any
import Derived.Shelf.Unicode.ExclAny
import Derived.Ground.Names2Prog
import Derived.Shelf.Slices.SearchI
import Derived.Test.YtocadlecfddbcaaGreatDoorProg
import Derived.Shelf.SlSortCmp.WholeK
import Derived.Ground.SlsfProg
import Derived.Shelf.Spec.SlicesGrow
import Derived.Ground.Names8Prog
namespace Go.Proofs
open Go.Shelf
def Tryz.lays156_ren : Go.Shelf.Ren := ⟨fun | 156 => 41 | 165 => 54 | 166 => 55 | 169 => 56 | 240 => 67 | 241 => 68 | 276 => 90 | 277 => 91 | n => n, fun | 31 => 45 | 9 => 9 | 3 => 3 | 4 => 4 | 0 => 0 | 20 => 20 | 72 => 74 | 76 => 67 | 70 => 71 | 37 => 72 | 75 => 66 | 127 => 87 | 164 => 115 | 5 => 5 | 80 => 76 | n => n, fun | n => n⟩
theorem Tryz.lays156 : Go.Proofs.Lays.n156 Tryz.prog Tryz.lays156_ren := {
  mixed := by kernel_rfl
  f156 := Tryz.func41.trans (congrArg some (by kernel_rfl))
  f165 := Tryz.func54.trans (congrArg some (by kernel_rfl))
  f166 := Tryz.func55.trans (congrArg some (by kernel_rfl))
  f169 := Tryz.func56.trans (congrArg some (by kernel_rfl))
  f240 := Tryz.func67.trans (congrArg some (by kernel_rfl))
  f241 := Tryz.func68.trans (congrArg some (by kernel_rfl))
  f276 := Tryz.func90.trans (congrArg some (by kernel_rfl))
  f277 := Tryz.func91.trans (congrArg some (by kernel_rfl))
  t0 := Tryz.underlying0
  a0 := Tryz.isAgg0
  z0 := Tryz.sizeOf0
  v0 := Tryz.zeroValue0
  t3 := Tryz.underlying3
  a3 := Tryz.isAgg3
  z3 := Tryz.sizeOf3
  v3 := Tryz.zeroValue3
  t4 := Tryz.underlying4
  a4 := Tryz.isAgg4
  z4 := Tryz.sizeOf4
  v4 := Tryz.zeroValue4
  t9 := Tryz.underlying9
  a9 := Tryz.isAgg9
  z9 := Tryz.sizeOf9
  v9 := Tryz.zeroValue9
  t20 := Tryz.underlying20
  a20 := Tryz.isAgg20
  z20 := Tryz.sizeOf20
  v20 := Tryz.zeroValue20
  t31 := Tryz.underlying45
  a31 := Tryz.isAgg45
  z31 := Tryz.sizeOf45
  v31 := Tryz.zeroValue45
  t37 := Tryz.underlying72
  a37 := Tryz.isAgg72
  z37 := Tryz.sizeOf72
  v37 := Tryz.zeroValue72
  t70 := Tryz.underlying71
  a70 := Tryz.isAgg71
  z70 := Tryz.sizeOf71
  v70 := Tryz.zeroValue71
  t72 := Tryz.underlying74
  a72 := Tryz.isAgg74
  z72 := Tryz.sizeOf74
  v72 := Tryz.zeroValue74
  t75 := Tryz.underlying66
  a75 := Tryz.isAgg66
  z75 := Tryz.sizeOf66
  v75 := Tryz.zeroValue66
  t76 := Tryz.underlying67
  a76 := Tryz.isAgg67
  z76 := Tryz.sizeOf67
  v76 := Tryz.zeroValue67
  t127 := Tryz.underlying87
  a127 := Tryz.isAgg87
  z127 := Tryz.sizeOf87
  v127 := Tryz.zeroValue87
  t164 := Tryz.underlying115
  a164 := Tryz.isAgg115
  z164 := Tryz.sizeOf115
  v164 := Tryz.zeroValue115 }
theorem Tryz.Builder_Extra_156 : Builder.Extra Tryz.prog Tryz.lays156_ren := {
  sizeBuilder := by kernel_rfl
  liesBuilder := by kernel_rfl
  t5 := Tryz.underlying5
  a5 := Tryz.isAgg5
  z5 := Tryz.sizeOf5
  v5 := Tryz.zeroValue5
  infoByte := by kernel_rfl
  cellsByte := by kernel_rfl
  sizeByte := by kernel_rfl
  neB5 := by decide }
open Go.RowKit in
theorem Tryz.strings_Join_none (a : Option Addr) (c : Nat) (sep : ByteArray) (w : World) :
    Calls Tryz.prog 41 #[.slice a 0 c, .string sep] w fun e w' => e = .returned (.string ⟨#[]⟩) ∧ w' = w := Any.strings_Join_none Tryz.lays156 Tryz.Builder_Extra_156 a c sep w
open Go.RowKit in
theorem Tryz.strings_Join (bk o c : Nat) (xs : List ByteArray) (sep : ByteArray) (w : World) (hcells : ∀ (j : Nat) x, xs[j]? = some x → w.cell? ⟨bk, o + j, none⟩ = some (.string x)) (hbk : bk < w.heap.size) (hN : xs.length ≤ 140737488355328) (hcap : xs.length ≤ c) (hlen : (Lib.join (xs.map (·.data.toList)) sep.data.toList).length ≤ 140737488355328) :
    Calls Tryz.prog 41 #[.slice (some ⟨bk, o, none⟩) xs.length c, .string sep] w fun e w' => e = .returned (.string ⟨(Lib.join (xs.map (·.data.toList)) sep.data.toList).toArray⟩) ∧ Below w.heap.size w w' := Any.strings_Join Tryz.lays156 Tryz.Builder_Extra_156 bk o c xs sep w hcells hbk hN hcap hlen
def Tryz.lays171_ren : Go.Shelf.Ren := ⟨fun | 171 => 40 | 243 => 53 | 246 => 66 | 283 => 86 | 284 => 87 | 285 => 88 | 286 => 89 | 129 => 78 | 317 => 106 | 318 => 107 | 319 => 108 | 320 => 109 | 337 => 115 | 338 => 116 | n => n, fun | 3 => 3 | 9 => 9 | 2 => 2 | 4 => 4 | 171 => 111 | 0 => 0 | 53 => 98 | 37 => 72 | 5 => 5 | 173 => 113 | 212 => 143 | 51 => 96 | 20 => 20 | 213 => 144 | 46 => 80 | 232 => 157 | 233 => 158 | n => n, fun | 17 => 5 | 18 => 6 | 19 => 7 | n => n⟩
theorem Tryz.lays171 : Go.Proofs.Lays.n171 Tryz.prog Tryz.lays171_ren := {
  mixed := by kernel_rfl
  f129 := Tryz.func78.trans (congrArg some (by kernel_rfl))
  f171 := Tryz.func40.trans (congrArg some (by kernel_rfl))
  f243 := Tryz.func53.trans (congrArg some (by kernel_rfl))
  f246 := Tryz.func66.trans (congrArg some (by kernel_rfl))
  f283 := Tryz.func86.trans (congrArg some (by kernel_rfl))
  f284 := Tryz.func87.trans (congrArg some (by kernel_rfl))
  f285 := Tryz.func88.trans (congrArg some (by kernel_rfl))
  f286 := Tryz.func89.trans (congrArg some (by kernel_rfl))
  f317 := Tryz.func106.trans (congrArg some (by kernel_rfl))
  f318 := Tryz.func107.trans (congrArg some (by kernel_rfl))
  f319 := Tryz.func108.trans (congrArg some (by kernel_rfl))
  f320 := Tryz.func109.trans (congrArg some (by kernel_rfl))
  f337 := Tryz.func115.trans (congrArg some (by kernel_rfl))
  f338 := Tryz.func116.trans (congrArg some (by kernel_rfl))
  t0 := Tryz.underlying0
  a0 := Tryz.isAgg0
  z0 := Tryz.sizeOf0
  v0 := Tryz.zeroValue0
  t2 := Tryz.underlying2
  a2 := Tryz.isAgg2
  z2 := Tryz.sizeOf2
  v2 := Tryz.zeroValue2
  t3 := Tryz.underlying3
  a3 := Tryz.isAgg3
  z3 := Tryz.sizeOf3
  v3 := Tryz.zeroValue3
  t4 := Tryz.underlying4
  a4 := Tryz.isAgg4
  z4 := Tryz.sizeOf4
  v4 := Tryz.zeroValue4
  t5 := Tryz.underlying5
  a5 := Tryz.isAgg5
  z5 := Tryz.sizeOf5
  v5 := Tryz.zeroValue5
  t9 := Tryz.underlying9
  a9 := Tryz.isAgg9
  z9 := Tryz.sizeOf9
  v9 := Tryz.zeroValue9
  t20 := Tryz.underlying20
  a20 := Tryz.isAgg20
  z20 := Tryz.sizeOf20
  v20 := Tryz.zeroValue20
  t37 := Tryz.underlying72
  a37 := Tryz.isAgg72
  z37 := Tryz.sizeOf72
  v37 := Tryz.zeroValue72
  t46 := Tryz.underlying80
  a46 := Tryz.isAgg80
  z46 := Tryz.sizeOf80
  v46 := Tryz.zeroValue80
  t51 := Tryz.underlying96
  a51 := Tryz.isAgg96
  z51 := Tryz.sizeOf96
  v51 := Tryz.zeroValue96
  t53 := Tryz.underlying98
  a53 := Tryz.isAgg98
  z53 := Tryz.sizeOf98
  v53 := Tryz.zeroValue98
  t171 := Tryz.underlying111
  a171 := Tryz.isAgg111
  z171 := Tryz.sizeOf111
  v171 := Tryz.zeroValue111
  t173 := Tryz.underlying113
  a173 := Tryz.isAgg113
  z173 := Tryz.sizeOf113
  v173 := Tryz.zeroValue113
  t212 := Tryz.underlying143
  a212 := Tryz.isAgg143
  z212 := Tryz.sizeOf143
  v212 := Tryz.zeroValue143
  t213 := Tryz.underlying144
  a213 := Tryz.isAgg144
  z213 := Tryz.sizeOf144
  t232 := Tryz.underlying157
  a232 := Tryz.isAgg157
  z232 := Tryz.sizeOf157
  v232 := Tryz.zeroValue157
  t233 := Tryz.underlying158
  a233 := Tryz.isAgg158
  z233 := Tryz.sizeOf158
  v233 := Tryz.zeroValue158
  g17 := by kernel_rfl
  g18 := by kernel_rfl
  g19 := by kernel_rfl }
open Go.RowKit Go.Sort Go.Lib in
theorem Tryz.strconv_Itoa_small (i : Nat) (hi : i < 100) (w : World) :
    Calls Tryz.prog 40 #[.int .i64 i] w fun e w' => e = .returned (.string ⟨(Lib.decDigits i).toArray⟩) ∧ w' = w := Any.strconv_Itoa_small Tryz.lays171 i hi w
def Tryz.laysC172_ren : Go.Shelf.Ren := ⟨fun | 172 => 50 | 244 => 64 | 245 => 65 | 247 => 81 | 279 => 82 | 280 => 83 | 281 => 84 | 282 => 85 | 287 => 103 | 316 => 104 | 171 => 40 | 205 => 105 | 321 => 113 | 322 => 114 | 243 => 53 | 246 => 66 | 283 => 86 | 284 => 87 | 285 => 88 | 286 => 89 | 129 => 78 | 317 => 106 | 318 => 107 | 319 => 108 | 320 => 109 | 337 => 115 | 338 => 116 | n => n, fun | 9 => 9 | 3 => 3 | 75 => 66 | 76 => 67 | 4 => 4 | 5 => 5 | 167 => 105 | 37 => 72 | 0 => 0 | 85 => 106 | 2 => 2 | 168 => 108 | 53 => 98 | 175 => 136 | 46 => 80 | 210 => 140 | 127 => 87 | 145 => 156 | 143 => 154 | 21 => 21 | 171 => 111 | 173 => 113 | 212 => 143 | 51 => 96 | 20 => 20 | 213 => 144 | 232 => 157 | 233 => 158 | 80 => 76 | n => n, fun | 15 => 3 | 16 => 4 | 17 => 5 | 18 => 6 | 19 => 7 | n => n⟩
theorem Tryz.laysC172 : Go.Proofs.LaysC.n172 Tryz.prog Tryz.laysC172_ren := {
  mixed := by kernel_rfl
  f129 := Tryz.func78.trans (congrArg some (by kernel_rfl))
  f171 := Tryz.func40.trans (congrArg some (by kernel_rfl))
  f172 := Tryz.func50.trans (congrArg some (by kernel_rfl))
  f205 := Tryz.func105.trans (congrArg some (by kernel_rfl))
  f243 := Tryz.func53.trans (congrArg some (by kernel_rfl))
  f244 := Tryz.func64.trans (congrArg some (by kernel_rfl))
  f245 := Tryz.func65.trans (congrArg some (by kernel_rfl))
  f246 := Tryz.func66.trans (congrArg some (by kernel_rfl))
  f247 := Tryz.func81.trans (congrArg some (by kernel_rfl))
  f279 := Tryz.func82.trans (congrArg some (by kernel_rfl))
  f280 := Tryz.func83.trans (congrArg some (by kernel_rfl))
  f281 := Tryz.func84.trans (congrArg some (by kernel_rfl))
  f282 := Tryz.func85.trans (congrArg some (by kernel_rfl))
  f283 := Tryz.func86.trans (congrArg some (by kernel_rfl))
  f284 := Tryz.func87.trans (congrArg some (by kernel_rfl))
  f285 := Tryz.func88.trans (congrArg some (by kernel_rfl))
  f286 := Tryz.func89.trans (congrArg some (by kernel_rfl))
  f287 := Tryz.func103.trans (congrArg some (by kernel_rfl))
  f316 := Tryz.func104.trans (congrArg some (by kernel_rfl))
  f317 := Tryz.func106.trans (congrArg some (by kernel_rfl))
  f318 := Tryz.func107.trans (congrArg some (by kernel_rfl))
  f319 := Tryz.func108.trans (congrArg some (by kernel_rfl))
  f320 := Tryz.func109.trans (congrArg some (by kernel_rfl))
  f321 := Tryz.func113.trans (congrArg some (by kernel_rfl))
  f322 := Tryz.func114.trans (congrArg some (by kernel_rfl))
  f337 := Tryz.func115.trans (congrArg some (by kernel_rfl))
  f338 := Tryz.func116.trans (congrArg some (by kernel_rfl))
  t0 := Tryz.underlying0
  a0 := Tryz.isAgg0
  z0 := Tryz.sizeOf0
  v0 := Tryz.zeroValue0
  t2 := Tryz.underlying2
  a2 := Tryz.isAgg2
  z2 := Tryz.sizeOf2
  v2 := Tryz.zeroValue2
  t3 := Tryz.underlying3
  a3 := Tryz.isAgg3
  z3 := Tryz.sizeOf3
  v3 := Tryz.zeroValue3
  t4 := Tryz.underlying4
  a4 := Tryz.isAgg4
  z4 := Tryz.sizeOf4
  v4 := Tryz.zeroValue4
  t5 := Tryz.underlying5
  a5 := Tryz.isAgg5
  z5 := Tryz.sizeOf5
  v5 := Tryz.zeroValue5
  t9 := Tryz.underlying9
  a9 := Tryz.isAgg9
  z9 := Tryz.sizeOf9
  v9 := Tryz.zeroValue9
  t20 := Tryz.underlying20
  a20 := Tryz.isAgg20
  z20 := Tryz.sizeOf20
  v20 := Tryz.zeroValue20
  t21 := Tryz.underlying21
  a21 := Tryz.isAgg21
  z21 := Tryz.sizeOf21
  v21 := Tryz.zeroValue21
  t37 := Tryz.underlying72
  a37 := Tryz.isAgg72
  z37 := Tryz.sizeOf72
  v37 := Tryz.zeroValue72
  t46 := Tryz.underlying80
  a46 := Tryz.isAgg80
  z46 := Tryz.sizeOf80
  v46 := Tryz.zeroValue80
  t51 := Tryz.underlying96
  a51 := Tryz.isAgg96
  z51 := Tryz.sizeOf96
  v51 := Tryz.zeroValue96
  t53 := Tryz.underlying98
  a53 := Tryz.isAgg98
  z53 := Tryz.sizeOf98
  v53 := Tryz.zeroValue98
  t75 := Tryz.underlying66
  a75 := Tryz.isAgg66
  z75 := Tryz.sizeOf66
  v75 := Tryz.zeroValue66
  t76 := Tryz.underlying67
  a76 := Tryz.isAgg67
  z76 := Tryz.sizeOf67
  v76 := Tryz.zeroValue67
  t85 := Tryz.underlying106
  a85 := Tryz.isAgg106
  z85 := Tryz.sizeOf106
  v85 := Tryz.zeroValue106
  t127 := Tryz.underlying87
  a127 := Tryz.isAgg87
  z127 := Tryz.sizeOf87
  v127 := Tryz.zeroValue87
  t143 := Tryz.underlying154
  a143 := Tryz.isAgg154
  z143 := Tryz.sizeOf154
  v143 := Tryz.zeroValue154
  t145 := Tryz.underlying156
  a145 := Tryz.isAgg156
  z145 := Tryz.sizeOf156
  v145 := Tryz.zeroValue156
  t167 := Tryz.underlying105
  a167 := Tryz.isAgg105
  z167 := Tryz.sizeOf105
  v167 := Tryz.zeroValue105
  t168 := Tryz.underlying108
  a168 := Tryz.isAgg108
  z168 := Tryz.sizeOf108
  v168 := Tryz.zeroValue108
  t171 := Tryz.underlying111
  a171 := Tryz.isAgg111
  z171 := Tryz.sizeOf111
  v171 := Tryz.zeroValue111
  t173 := Tryz.underlying113
  a173 := Tryz.isAgg113
  z173 := Tryz.sizeOf113
  v173 := Tryz.zeroValue113
  t175 := Tryz.underlying136
  a175 := Tryz.isAgg136
  z175 := Tryz.sizeOf136
  v175 := Tryz.zeroValue136
  t210 := Tryz.underlying140
  a210 := Tryz.isAgg140
  z210 := Tryz.sizeOf140
  v210 := Tryz.zeroValue140
  t212 := Tryz.underlying143
  a212 := Tryz.isAgg143
  z212 := Tryz.sizeOf143
  v212 := Tryz.zeroValue143
  t213 := Tryz.underlying144
  a213 := Tryz.isAgg144
  z213 := Tryz.sizeOf144
  t232 := Tryz.underlying157
  a232 := Tryz.isAgg157
  z232 := Tryz.sizeOf157
  v232 := Tryz.zeroValue157
  t233 := Tryz.underlying158
  a233 := Tryz.isAgg158
  z233 := Tryz.sizeOf158
  v233 := Tryz.zeroValue158
  g15 := by kernel_rfl
  g16 := by kernel_rfl
  g17 := by kernel_rfl
  g18 := by kernel_rfl
  g19 := by kernel_rfl
  t80 := Tryz.underlying76
  a80 := Tryz.isAgg76
  z80 := Tryz.sizeOf76
  v80 := Tryz.zeroValue76
  i0 := by kernel_rfl
  i2 := by kernel_rfl
  i3 := by kernel_rfl
  i4 := by kernel_rfl
  i5 := by kernel_rfl
  i9 := by kernel_rfl
  i20 := by kernel_rfl
  i21 := by kernel_rfl
  i37 := by kernel_rfl
  i46 := by kernel_rfl
  i51 := by kernel_rfl
  i53 := by kernel_rfl
  i75 := by kernel_rfl
  i76 := by kernel_rfl
  i80 := by kernel_rfl
  i85 := by kernel_rfl
  i127 := by kernel_rfl
  i143 := by kernel_rfl
  i145 := by kernel_rfl
  i167 := by kernel_rfl
  i168 := by kernel_rfl
  i171 := by kernel_rfl
  i173 := by kernel_rfl
  i175 := by kernel_rfl
  i210 := by kernel_rfl
  i212 := by kernel_rfl
  i232 := by kernel_rfl
  i233 := by kernel_rfl
  m15 := by kernel_rfl
  m16 := by kernel_rfl
  m17 := by kernel_rfl
  m18 := by kernel_rfl
  m19 := by kernel_rfl
  c0 := by kernel_rfl
  c2 := by kernel_rfl
  c3 := by kernel_rfl
  c4 := by kernel_rfl
  c5 := by kernel_rfl
  c9 := by kernel_rfl
  c20 := by kernel_rfl
  c21 := by kernel_rfl
  c37 := by kernel_rfl
  c46 := by kernel_rfl
  c51 := by kernel_rfl
  c53 := by kernel_rfl
  c75 := by kernel_rfl
  c76 := by kernel_rfl
  c80 := by kernel_rfl
  c85 := by kernel_rfl
  c127 := by kernel_rfl
  c143 := by kernel_rfl
  c145 := by kernel_rfl
  c167 := by kernel_rfl
  c168 := by kernel_rfl
  c171 := by kernel_rfl
  c173 := by kernel_rfl
  c175 := by kernel_rfl
  c210 := by kernel_rfl
  c212 := by kernel_rfl
  c213 := by kernel_rfl
  c232 := by kernel_rfl
  c233 := by kernel_rfl }
open Go.RowKit in
theorem Tryz.strconv_Atoi_ok (s : ByteArray) (hmax : s.size ≤ 9223372036854775806) (v : Int) (h : Lib.atoiAll s.data.toList = .ok v) (w : World) :
    Calls Tryz.prog 50 #[.string s] w fun e w' => e = .returned (.tuple #[.int .i64 v, .nilIface]) ∧ (w' = w ∨ ∃ t, w' = Lib.bytesWorld w 5 t) := Any.strconv_Atoi_ok Tryz.laysC172 s hmax v h w
def Tryz.lays145_ren : Go.Shelf.Ren := ⟨fun | 145 => 49 | 220 => 63 | 219 => 80 | 217 => 99 | 225 => 100 | 224 => 101 | 267 => 102 | 266 => 111 | 314 => 112 | n => n, fun | 9 => 9 | 4 => 4 | 59 => 63 | 3 => 3 | 5 => 5 | 46 => 80 | 146 => 150 | 51 => 96 | n => n, fun | 1 => 2 | n => n⟩
theorem Tryz.lays145 : Go.Proofs.Lays.n145 Tryz.prog Tryz.lays145_ren := {
  mixed := by kernel_rfl
  f145 := Tryz.func49.trans (congrArg some (by kernel_rfl))
  f217 := Tryz.func99.trans (congrArg some (by kernel_rfl))
  f219 := Tryz.func80.trans (congrArg some (by kernel_rfl))
  f220 := Tryz.func63.trans (congrArg some (by kernel_rfl))
  f224 := Tryz.func101.trans (congrArg some (by kernel_rfl))
  f225 := Tryz.func100.trans (congrArg some (by kernel_rfl))
  f266 := Tryz.func111.trans (congrArg some (by kernel_rfl))
  f267 := Tryz.func102.trans (congrArg some (by kernel_rfl))
  f314 := Tryz.func112.trans (congrArg some (by kernel_rfl))
  t3 := Tryz.underlying3
  a3 := Tryz.isAgg3
  z3 := Tryz.sizeOf3
  v3 := Tryz.zeroValue3
  t4 := Tryz.underlying4
  a4 := Tryz.isAgg4
  z4 := Tryz.sizeOf4
  v4 := Tryz.zeroValue4
  t5 := Tryz.underlying5
  a5 := Tryz.isAgg5
  z5 := Tryz.sizeOf5
  v5 := Tryz.zeroValue5
  t9 := Tryz.underlying9
  a9 := Tryz.isAgg9
  z9 := Tryz.sizeOf9
  v9 := Tryz.zeroValue9
  t46 := Tryz.underlying80
  a46 := Tryz.isAgg80
  z46 := Tryz.sizeOf80
  v46 := Tryz.zeroValue80
  t51 := Tryz.underlying96
  a51 := Tryz.isAgg96
  z51 := Tryz.sizeOf96
  v51 := Tryz.zeroValue96
  t59 := Tryz.underlying63
  a59 := Tryz.isAgg63
  z59 := Tryz.sizeOf63
  v59 := Tryz.zeroValue63
  t146 := Tryz.underlying150
  a146 := Tryz.isAgg150
  z146 := Tryz.sizeOf150
  v146 := Tryz.zeroValue150
  g1 := by kernel_rfl }
open Go.RowKit Go.Lib in
theorem Tryz.strings_Cut (s sep : ByteArray) (m : Int) (w : World) (hs : s.size < 4294967281) (hm : w.cell? ⟨2, 0, none⟩ = some (.int .i64 m)) :
    Calls Tryz.prog 49 #[.string s, .string sep] w fun e w' => e = .returned (.tuple #[.string ⟨(Lib.cut s.data.toList sep.data.toList).1.toArray⟩, .string ⟨(Lib.cut s.data.toList sep.data.toList).2.1.toArray⟩, .bool (Lib.cut s.data.toList sep.data.toList).2.2]) ∧ ∃ n, w' = w.drewN n := Any.strings_Cut Tryz.lays145 s sep m w hs hm
def Tryz.lays157_ren : Go.Shelf.Ren := ⟨fun | 157 => 48 | 229 => 61 | 199 => 62 | 261 => 79 | 311 => 97 | 312 => 98 | n => n, fun | 9 => 9 | 31 => 45 | 3 => 3 | 5 => 5 | 4 => 4 | 119 => 82 | 0 => 0 | 40 => 84 | 152 => 99 | 21 => 21 | 154 => 101 | 51 => 96 | 141 => 103 | 196 => 127 | 193 => 124 | 198 => 130 | 49 => 128 | 194 => 125 | 201 => 133 | 226 => 148 | 46 => 80 | 227 => 149 | n => n, fun | 0 => 0 | 6 => 1 | n => n⟩
theorem Tryz.lays157 : Go.Proofs.Lays.n157 Tryz.prog Tryz.lays157_ren := {
  mixed := by kernel_rfl
  f157 := Tryz.func48.trans (congrArg some (by kernel_rfl))
  f199 := Tryz.func62.trans (congrArg some (by kernel_rfl))
  f229 := Tryz.func61.trans (congrArg some (by kernel_rfl))
  f261 := Tryz.func79.trans (congrArg some (by kernel_rfl))
  f311 := Tryz.func97.trans (congrArg some (by kernel_rfl))
  f312 := Tryz.func98.trans (congrArg some (by kernel_rfl))
  t0 := Tryz.underlying0
  a0 := Tryz.isAgg0
  z0 := Tryz.sizeOf0
  v0 := Tryz.zeroValue0
  t3 := Tryz.underlying3
  a3 := Tryz.isAgg3
  z3 := Tryz.sizeOf3
  v3 := Tryz.zeroValue3
  t4 := Tryz.underlying4
  a4 := Tryz.isAgg4
  z4 := Tryz.sizeOf4
  v4 := Tryz.zeroValue4
  t5 := Tryz.underlying5
  a5 := Tryz.isAgg5
  z5 := Tryz.sizeOf5
  v5 := Tryz.zeroValue5
  t9 := Tryz.underlying9
  a9 := Tryz.isAgg9
  z9 := Tryz.sizeOf9
  v9 := Tryz.zeroValue9
  t21 := Tryz.underlying21
  a21 := Tryz.isAgg21
  z21 := Tryz.sizeOf21
  v21 := Tryz.zeroValue21
  t31 := Tryz.underlying45
  a31 := Tryz.isAgg45
  z31 := Tryz.sizeOf45
  v31 := Tryz.zeroValue45
  t40 := Tryz.underlying84
  a40 := Tryz.isAgg84
  z40 := Tryz.sizeOf84
  v40 := Tryz.zeroValue84
  t46 := Tryz.underlying80
  a46 := Tryz.isAgg80
  z46 := Tryz.sizeOf80
  v46 := Tryz.zeroValue80
  t49 := Tryz.underlying128
  a49 := Tryz.isAgg128
  z49 := Tryz.sizeOf128
  v49 := Tryz.zeroValue128
  t51 := Tryz.underlying96
  a51 := Tryz.isAgg96
  z51 := Tryz.sizeOf96
  v51 := Tryz.zeroValue96
  t119 := Tryz.underlying82
  a119 := Tryz.isAgg82
  z119 := Tryz.sizeOf82
  t141 := Tryz.underlying103
  a141 := Tryz.isAgg103
  z141 := Tryz.sizeOf103
  v141 := Tryz.zeroValue103
  t152 := Tryz.underlying99
  a152 := Tryz.isAgg99
  z152 := Tryz.sizeOf99
  v152 := Tryz.zeroValue99
  t154 := Tryz.underlying101
  a154 := Tryz.isAgg101
  z154 := Tryz.sizeOf101
  v154 := Tryz.zeroValue101
  t193 := Tryz.underlying124
  a193 := Tryz.isAgg124
  z193 := Tryz.sizeOf124
  v193 := Tryz.zeroValue124
  t194 := Tryz.underlying125
  a194 := Tryz.isAgg125
  z194 := Tryz.sizeOf125
  v194 := Tryz.zeroValue125
  t196 := Tryz.underlying127
  a196 := Tryz.isAgg127
  z196 := Tryz.sizeOf127
  v196 := Tryz.zeroValue127
  t198 := Tryz.underlying130
  a198 := Tryz.isAgg130
  z198 := Tryz.sizeOf130
  v198 := Tryz.zeroValue130
  t201 := Tryz.underlying133
  a201 := Tryz.isAgg133
  z201 := Tryz.sizeOf133
  v201 := Tryz.zeroValue133
  t226 := Tryz.underlying148
  a226 := Tryz.isAgg148
  z226 := Tryz.sizeOf148
  v226 := Tryz.zeroValue148
  t227 := Tryz.underlying149
  a227 := Tryz.isAgg149
  z227 := Tryz.sizeOf149
  v227 := Tryz.zeroValue149
  g0 := by kernel_rfl
  g6 := by kernel_rfl }
def Tryz.lays199_ren : Go.Shelf.Ren := ⟨fun | 199 => 62 | 261 => 79 | 311 => 97 | 312 => 98 | n => n, fun | 21 => 21 | 4 => 4 | 51 => 96 | 141 => 103 | 0 => 0 | 196 => 127 | 193 => 124 | 3 => 3 | 198 => 130 | 49 => 128 | 194 => 125 | 201 => 133 | 226 => 148 | 46 => 80 | 227 => 149 | n => n, fun | 6 => 1 | n => n⟩
theorem Tryz.lays199 : Go.Proofs.Lays.n199 Tryz.prog Tryz.lays199_ren := {
  mixed := by kernel_rfl
  f199 := Tryz.func62.trans (congrArg some (by kernel_rfl))
  f261 := Tryz.func79.trans (congrArg some (by kernel_rfl))
  f311 := Tryz.func97.trans (congrArg some (by kernel_rfl))
  f312 := Tryz.func98.trans (congrArg some (by kernel_rfl))
  t0 := Tryz.underlying0
  a0 := Tryz.isAgg0
  z0 := Tryz.sizeOf0
  v0 := Tryz.zeroValue0
  t3 := Tryz.underlying3
  a3 := Tryz.isAgg3
  z3 := Tryz.sizeOf3
  v3 := Tryz.zeroValue3
  t4 := Tryz.underlying4
  a4 := Tryz.isAgg4
  z4 := Tryz.sizeOf4
  v4 := Tryz.zeroValue4
  t21 := Tryz.underlying21
  a21 := Tryz.isAgg21
  z21 := Tryz.sizeOf21
  v21 := Tryz.zeroValue21
  t46 := Tryz.underlying80
  a46 := Tryz.isAgg80
  z46 := Tryz.sizeOf80
  v46 := Tryz.zeroValue80
  t49 := Tryz.underlying128
  a49 := Tryz.isAgg128
  z49 := Tryz.sizeOf128
  v49 := Tryz.zeroValue128
  t51 := Tryz.underlying96
  a51 := Tryz.isAgg96
  z51 := Tryz.sizeOf96
  v51 := Tryz.zeroValue96
  t141 := Tryz.underlying103
  a141 := Tryz.isAgg103
  z141 := Tryz.sizeOf103
  v141 := Tryz.zeroValue103
  t193 := Tryz.underlying124
  a193 := Tryz.isAgg124
  z193 := Tryz.sizeOf124
  v193 := Tryz.zeroValue124
  t194 := Tryz.underlying125
  a194 := Tryz.isAgg125
  z194 := Tryz.sizeOf125
  v194 := Tryz.zeroValue125
  t196 := Tryz.underlying127
  a196 := Tryz.isAgg127
  z196 := Tryz.sizeOf127
  v196 := Tryz.zeroValue127
  t198 := Tryz.underlying130
  a198 := Tryz.isAgg130
  z198 := Tryz.sizeOf130
  v198 := Tryz.zeroValue130
  t201 := Tryz.underlying133
  a201 := Tryz.isAgg133
  z201 := Tryz.sizeOf133
  v201 := Tryz.zeroValue133
  t226 := Tryz.underlying148
  a226 := Tryz.isAgg148
  z226 := Tryz.sizeOf148
  v226 := Tryz.zeroValue148
  t227 := Tryz.underlying149
  a227 := Tryz.isAgg149
  z227 := Tryz.sizeOf149
  v227 := Tryz.zeroValue149
  g6 := by kernel_rfl }
open Go.RowKit Go.Lib in
theorem Tryz.strings_Fields_any (s : ByteArray) (w : World) (hs : s.size < 4294967281) (htab : Lib.TabIs Tryz.prog w "strings.asciiSpace" .u8 Lib.asciiSpaceTab) (hW : Lib.WhiteTab 1 w) :
    Calls Tryz.prog 48 #[.string s] w fun e w' => ∃ A, e = .returned (.slice (some ⟨A, 0, none⟩) (Lib.fieldsD s.data.toList).length (Lib.fieldsD s.data.toList).length) ∧ w.heap.size ≤ A ∧
      w'.ownsRow w.heap.size 9 1 (.slice (some ⟨A, 0, none⟩) (Lib.fieldsD s.data.toList).length (Lib.fieldsD s.data.toList).length) (Lib.fieldsD s.data.toList).length ((Lib.fieldsD s.data.toList).map fun x => Value.string ⟨x.toArray⟩) ∧ Below w.heap.size w w' := Any.strings_Fields_any Tryz.lays157 (by kernel_rfl) (by kernel_rfl) (by kernel_rfl) s w hs htab hW
def Tryz.sortC_ren : Go.Shelf.Ren := ⟨fun | 6 => 45 | 15 => 59 | 14 => 58 | 28 => 77 | 29 => 78 | 20 => 69 | 21 => 70 | 22 => 71 | 23 => 72 | 24 => 73 | 25 => 74 | 26 => 75 | 27 => 76 | 46 => 92 | 47 => 93 | 48 => 94 | 49 => 95 | 50 => 96 | 57 => 110 | n => n, fun | 22 => 25 | 24 => 24 | 25 => 34 | 3 => 3 | 39 => 80 | 0 => 0 | 53 => 96 | 55 => 98 | 4 => 4 | 46 => 90 | 45 => 89 | 50 => 56 | 5 => 5 | 9 => 9 | 66 => 118 | 70 => 122 | 76 => 145 | 77 => 146 | n => n, fun | n => n⟩
theorem Tryz.sortC : Go.Proofs.SlLaysF0.n6 Tryz.prog Tryz.sortC_ren := {
  mixed := by kernel_rfl
  f6 := ⟨Tryz.f45.name, by decide, Tryz.func45.trans (congrArg some (by kernel_rfl))⟩
  f14 := ⟨Tryz.f58.name, by decide, Tryz.func58.trans (congrArg some (by kernel_rfl))⟩
  f15 := Tryz.func59.trans (congrArg some (by kernel_rfl))
  f20 := ⟨Tryz.f69.name, by decide, Tryz.func69.trans (congrArg some (by kernel_rfl))⟩
  f21 := ⟨Tryz.f70.name, by decide, Tryz.func70.trans (congrArg some (by kernel_rfl))⟩
  f22 := ⟨Tryz.f71.name, by decide, Tryz.func71.trans (congrArg some (by kernel_rfl))⟩
  f23 := ⟨Tryz.f72.name, by decide, Tryz.func72.trans (congrArg some (by kernel_rfl))⟩
  f24 := ⟨Tryz.f73.name, by decide, Tryz.func73.trans (congrArg some (by kernel_rfl))⟩
  f25 := ⟨Tryz.f74.name, by decide, Tryz.func74.trans (congrArg some (by kernel_rfl))⟩
  f26 := ⟨Tryz.f75.name, by decide, Tryz.func75.trans (congrArg some (by kernel_rfl))⟩
  f27 := ⟨Tryz.f76.name, by decide, Tryz.func76.trans (congrArg some (by kernel_rfl))⟩
  f28 := Tryz.func77.trans (congrArg some (by kernel_rfl))
  f29 := Tryz.func78.trans (congrArg some (by kernel_rfl))
  f46 := ⟨Tryz.f92.name, by decide, Tryz.func92.trans (congrArg some (by kernel_rfl))⟩
  f47 := Tryz.func93.trans (congrArg some (by kernel_rfl))
  f48 := Tryz.func94.trans (congrArg some (by kernel_rfl))
  f49 := ⟨Tryz.f95.name, by decide, Tryz.func95.trans (congrArg some (by kernel_rfl))⟩
  f50 := ⟨Tryz.f96.name, by decide, Tryz.func96.trans (congrArg some (by kernel_rfl))⟩
  f57 := ⟨Tryz.f110.name, by decide, Tryz.func110.trans (congrArg some (by kernel_rfl))⟩
  t0 := Tryz.underlying0
  a0 := Tryz.isAgg0
  z0 := Tryz.sizeOf0
  v0 := Tryz.zeroValue0
  t3 := Tryz.underlying3
  a3 := Tryz.isAgg3
  z3 := Tryz.sizeOf3
  v3 := Tryz.zeroValue3
  t4 := Tryz.underlying4
  a4 := Tryz.isAgg4
  z4 := Tryz.sizeOf4
  v4 := Tryz.zeroValue4
  t5 := Tryz.underlying5
  a5 := Tryz.isAgg5
  z5 := Tryz.sizeOf5
  v5 := Tryz.zeroValue5
  t9 := Tryz.underlying9
  a9 := Tryz.isAgg9
  z9 := Tryz.sizeOf9
  v9 := Tryz.zeroValue9
  t22 := Tryz.underlying25
  a22 := Tryz.isAgg25
  z22 := Tryz.sizeOf25
  v22 := Tryz.zeroValue25
  t25 := Tryz.underlying34
  a25 := Tryz.isAgg34
  z25 := Tryz.sizeOf34
  v25 := Tryz.zeroValue34
  t39 := Tryz.underlying80
  a39 := Tryz.isAgg80
  z39 := Tryz.sizeOf80
  v39 := Tryz.zeroValue80
  t45 := Tryz.underlying89
  a45 := Tryz.isAgg89
  z45 := Tryz.sizeOf89
  v45 := Tryz.zeroValue89
  t46 := Tryz.underlying90
  a46 := Tryz.isAgg90
  z46 := Tryz.sizeOf90
  v46 := Tryz.zeroValue90
  t50 := Tryz.underlying56
  a50 := Tryz.isAgg56
  z50 := Tryz.sizeOf56
  v50 := Tryz.zeroValue56
  t53 := Tryz.underlying96
  a53 := Tryz.isAgg96
  z53 := Tryz.sizeOf96
  v53 := Tryz.zeroValue96
  t55 := Tryz.underlying98
  a55 := Tryz.isAgg98
  z55 := Tryz.sizeOf98
  v55 := Tryz.zeroValue98
  t66 := Tryz.underlying118
  a66 := Tryz.isAgg118
  z66 := Tryz.sizeOf118
  v66 := Tryz.zeroValue118
  t70 := Tryz.underlying122
  a70 := Tryz.isAgg122
  z70 := Tryz.sizeOf122
  v70 := Tryz.zeroValue122
  t76 := Tryz.underlying145
  a76 := Tryz.isAgg145
  z76 := Tryz.sizeOf145
  v76 := Tryz.zeroValue145
  t77 := Tryz.underlying146
  a77 := Tryz.isAgg146
  z77 := Tryz.sizeOf146
  v77 := Tryz.zeroValue146 }
def Tryz.growC_ren : Go.Shelf.Ren := ⟨fun | 4 => 60 | n => n, fun | 22 => 25 | 25 => 24 | 3 => 3 | 4 => 4 | 9 => 9 | 20 => 20 | 0 => 0 | 2 => 3 | n => n, fun | n => n⟩
theorem Tryz.growC : Go.Proofs.Lays8.n4 Tryz.prog Tryz.growC_ren := {
  mixed := by kernel_rfl
  f4 := ⟨Tryz.f60.name, by decide, Tryz.func60.trans (congrArg some (by kernel_rfl))⟩
  t0 := Tryz.underlying0
  a0 := Tryz.isAgg0
  z0 := Tryz.sizeOf0
  v0 := Tryz.zeroValue0
  t3 := Tryz.underlying3
  a3 := Tryz.isAgg3
  z3 := Tryz.sizeOf3
  v3 := Tryz.zeroValue3
  t4 := Tryz.underlying4
  a4 := Tryz.isAgg4
  z4 := Tryz.sizeOf4
  v4 := Tryz.zeroValue4
  t9 := Tryz.underlying9
  a9 := Tryz.isAgg9
  z9 := Tryz.sizeOf9
  v9 := Tryz.zeroValue9
  t20 := Tryz.underlying20
  a20 := Tryz.isAgg20
  z20 := Tryz.sizeOf20
  v20 := Tryz.zeroValue20
  t22 := Tryz.underlying25
  a22 := Tryz.isAgg25
  z22 := Tryz.sizeOf25
  v22 := Tryz.zeroValue25 }
end Go.Proofs
