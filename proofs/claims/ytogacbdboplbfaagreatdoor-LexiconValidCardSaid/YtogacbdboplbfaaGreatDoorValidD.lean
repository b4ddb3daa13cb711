/- Part 4 of the texts of this claim: the evaluator, and what it says of the program's functions. -/
import Derived.Test.YtogacbdboplbfaaGreatDoorValidB
import Derived.Test.YtogacbdboplbfaaGreatDoorValidC
import Derived.Test.YtogacbdboplbfaaGreatDoorProg
import Derived.Ground.NamesProg
import Derived.Shelf.Sort.Plain
import Derived.Shelf.Slices.In.SortNone
import Derived.Shelf.Strings.OnBuilder
import Derived.Shelf.Strings.Split
import Derived.Shelf.Strings.Cut
import Derived.Shelf.Strings.IndexAnyAll
import Derived.Shelf.Unicode.ValidAny
import Derived.WalkKit
import Derived.WalkMore
import Derived.BigQuiet
import Derived.Deep.RegionWith
import Derived.Lib.Walk
import Derived.Lib.SliceRun
import Derived.Laws.RangeAny
import Derived.Shelf.Small.Utf8
import Derived.Laws.Runes
import Derived.Lib.OthersKept
set_option linter.unusedSectionVars false
set_option linter.unusedVariables false
set_option linter.unusedSimpArgs false
set_option linter.constructorNameAsVariable false
/- Lexicon: words for the texts that are printed. -/
section
open Go Go.Vm Go.Proofs
namespace Go.Proofs.Lex
abbrev i6 (n:Int):AV := .int .i64 n
abbrev bo (b:Bool):AV := .bool b
abbrev st (s:ByteArray):AV := .str s
abbrev lro (n sz:Nat) (cs:List AV):AV := .list .ro n sz cs
abbrev w6 (n:Int):Int:=IntKind.wrap .i64 n
structure Feat where
  name:ByteArray
  value:ByteArray
  deriving DecidableEq
structure Lexm where
  id:ByteArray
  cat:ByteArray
  stem:ByteArray
  par:ByteArray
  feats:List Feat
  deriving DecidableEq
def featC (f:Feat):List AV:=[.str f.name,.str f.value]
def featsV (l:List Feat):AV := .list .ro l.length 2 (l.flatMap featC)
def lexC (x:Lexm):List AV:=[.str x.id,.str x.cat,.str x.stem,.str x.par,featsV x.feats]
def lexsV (l:List Lexm):AV := .list .ro l.length 5 (l.flatMap lexC)
/-! ### codes -/
section
variable [Fixed]
def cF:Cod Feat:=(Cod.str.prod Cod.str).iso (fun x=>⟨x.1,x.2⟩) (fun f=>(f.name,f.value)) (fun _=>rfl) (fun _=>rfl)
def cL:Cod Lexm:=(Cod.str.prod (Cod.str.prod (Cod.str.prod (Cod.str.prod cF.list)))).iso (fun x=>⟨x.1,x.2.1,x.2.2.1,x.2.2.2.1,x.2.2.2.2⟩) (fun x=>(x.id,x.cat,x.stem,x.par,x.feats)) (fun _=>rfl) (fun _=>rfl)
def aS:Arg ByteArray:=Arg.cell Cod.str rfl
def aI:Arg Int:=Arg.cell (Cod.int .i64) rfl
def aB:Arg Bool:=Arg.cell Cod.bool rfl
def aFs:Arg (List Feat):=Arg.cell cF.list rfl
def aL:Arg Lexm:=Arg.agg cL
def aLs:Arg (List Lexm):=Arg.cell cL.list rfl
def aSs:Arg (List ByteArray):=Arg.cell Cod.str.list rfl
def aSss:Arg (List (List ByteArray)):=Arg.cell Cod.str.list.list rfl
theorem aFs_enc (F:List Feat):aFs.enc F=featsV F:=rfl
theorem aSs_enc (l:List ByteArray):aSs.enc l=Go.Vm.strs l:=by
  show AV.list .ro l.length 1 (l.flatMap fun s=>[.str s])=AV.list .ro l.length 1 (l.map .str)
  have : ∀ l : List ByteArray, (l.flatMap fun s => [AV.str s]) = l.map .str := by
    intro l
    induction l with
    | nil=>rfl
    | cons x l ih=>rw [List.flatMap_cons,ih]; rfl
  rw [this]
theorem aSs_dec {l:List ByteArray}:aSs.dec (Go.Vm.strs l)=some l:=by rw [← aSs_enc,aSs.de]
end
theorem ai {a b:Prop} (x:a) (y:b):a∧b:=⟨x,y⟩
/-- Two numbers that differ. -/
theorem nq {p:Prop} {a b:Nat} (h:a=b) (hd:Nat.beq a b=false:=by rfl):p:=absurd (show Nat.beq a b=true from by rw [h]; exact Nat.beq_refl b) (by rw [hd]; simp)
end Go.Proofs.Lex
end
/- Lexicon: Sort, Join, Split, Cut, ContainsAny, ValidString by their contracts, laid in plain words. -/
section
namespace Go.Proofs
open Go.Shelf
def Tryz.laysSortS_ren:Go.Shelf.Ren:=⟨fun | 190=>34 | 125=>55 | 258=>54 | 128=>82 | 129=>83 | 302=>73 | 303=>74 | 304=>75 | 305=>76 | 306=>77 | 307=>78 | 308=>79 | 309=>80 | 310=>81 | 333=>94 | 329=>95 | 330=>96 | 334=>97 | 335=>98 | 336=>99 | 344=>103 | n=>n,fun | 31=>39 | 9=>9 | 3=>3 | 46=>89 | 0=>0 | 51=>62 | 53=>116 | 4=>4 | 183=>109 | 182=>108 | 131=>68 | 5=>5 | 218=>126 | 222=>130 | 228=>132 | 229=>133 | n=>n,fun | n=>n⟩
theorem Tryz.laysSortS:Go.Proofs.Lays.n190 Tryz.prog Tryz.laysSortS_ren := {
  mixed:=by kernel_rfl
  f125:=Tryz.func55.trans (congrArg some (by kernel_rfl))
  f128:=Tryz.func82.trans (congrArg some (by kernel_rfl))
  f129:=Tryz.func83.trans (congrArg some (by kernel_rfl))
  f190:=Tryz.func34.trans (congrArg some (by kernel_rfl))
  f258:=Tryz.func54.trans (congrArg some (by kernel_rfl))
  f302:=Tryz.func73.trans (congrArg some (by kernel_rfl))
  f303:=Tryz.func74.trans (congrArg some (by kernel_rfl))
  f304:=Tryz.func75.trans (congrArg some (by kernel_rfl))
  f305:=Tryz.func76.trans (congrArg some (by kernel_rfl))
  f306:=Tryz.func77.trans (congrArg some (by kernel_rfl))
  f307:=Tryz.func78.trans (congrArg some (by kernel_rfl))
  f308:=Tryz.func79.trans (congrArg some (by kernel_rfl))
  f309:=Tryz.func80.trans (congrArg some (by kernel_rfl))
  f310:=Tryz.func81.trans (congrArg some (by kernel_rfl))
  f329:=Tryz.func95.trans (congrArg some (by kernel_rfl))
  f330:=Tryz.func96.trans (congrArg some (by kernel_rfl))
  f333:=Tryz.func94.trans (congrArg some (by kernel_rfl))
  f334:=Tryz.func97.trans (congrArg some (by kernel_rfl))
  f335:=Tryz.func98.trans (congrArg some (by kernel_rfl))
  f336:=Tryz.func99.trans (congrArg some (by kernel_rfl))
  f344:=Tryz.func103.trans (congrArg some (by kernel_rfl))
  t0:=Tryz.underlying0
  a0:=Tryz.isAgg0
  z0:=Tryz.sizeOf0
  v0:=Tryz.zeroValue0
  t3:=Tryz.underlying3
  a3:=Tryz.isAgg3
  z3:=Tryz.sizeOf3
  v3:=Tryz.zeroValue3
  t4:=Tryz.underlying4
  a4:=Tryz.isAgg4
  z4:=Tryz.sizeOf4
  v4:=Tryz.zeroValue4
  t5:=Tryz.underlying5
  a5:=Tryz.isAgg5
  z5:=Tryz.sizeOf5
  v5:=Tryz.zeroValue5
  t9:=Tryz.underlying9
  a9:=Tryz.isAgg9
  z9:=Tryz.sizeOf9
  v9:=Tryz.zeroValue9
  t31:=Tryz.underlying39
  a31:=Tryz.isAgg39
  z31:=Tryz.sizeOf39
  v31:=Tryz.zeroValue39
  t46:=Tryz.underlying89
  a46:=Tryz.isAgg89
  z46:=Tryz.sizeOf89
  v46:=Tryz.zeroValue89
  t51:=Tryz.underlying62
  a51:=Tryz.isAgg62
  z51:=Tryz.sizeOf62
  v51:=Tryz.zeroValue62
  t53:=Tryz.underlying116
  a53:=Tryz.isAgg116
  z53:=Tryz.sizeOf116
  v53:=Tryz.zeroValue116
  t131:=Tryz.underlying68
  a131:=Tryz.isAgg68
  z131:=Tryz.sizeOf68
  v131:=Tryz.zeroValue68
  t182:=Tryz.underlying108
  a182:=Tryz.isAgg108
  z182:=Tryz.sizeOf108
  v182:=Tryz.zeroValue108
  t183:=Tryz.underlying109
  a183:=Tryz.isAgg109
  z183:=Tryz.sizeOf109
  v183:=Tryz.zeroValue109
  t218:=Tryz.underlying126
  a218:=Tryz.isAgg126
  z218:=Tryz.sizeOf126
  v218:=Tryz.zeroValue126
  t222:=Tryz.underlying130
  a222:=Tryz.isAgg130
  z222:=Tryz.sizeOf130
  v222:=Tryz.zeroValue130
  t228:=Tryz.underlying132
  a228:=Tryz.isAgg132
  z228:=Tryz.sizeOf132
  v228:=Tryz.zeroValue132
  t229:=Tryz.underlying133
  a229:=Tryz.isAgg133
  z229:=Tryz.sizeOf133
  v229:=Tryz.zeroValue133 }
def Tryz.laysJoin_ren:Go.Shelf.Ren:=⟨fun | 156=>23 | 165=>46 | 166=>47 | 169=>48 | 240=>64 | 241=>65 | 276=>89 | 277=>90 | n=>n,fun | 31=>39 | 9=>9 | 3=>3 | 4=>4 | 0=>0 | 20=>20 | 72=>76 | 76=>80 | 70=>73 | 37=>74 | 75=>79 | 127=>97 | 164=>121 | 5=>5 | 80=>82 | n=>n,fun | n=>n⟩
theorem Tryz.laysJoin:Go.Proofs.Lays.n156 Tryz.prog Tryz.laysJoin_ren := {
  mixed:=by kernel_rfl
  f156:=Tryz.func23.trans (congrArg some (by kernel_rfl))
  f165:=Tryz.func46.trans (congrArg some (by kernel_rfl))
  f166:=Tryz.func47.trans (congrArg some (by kernel_rfl))
  f169:=Tryz.func48.trans (congrArg some (by kernel_rfl))
  f240:=Tryz.func64.trans (congrArg some (by kernel_rfl))
  f241:=Tryz.func65.trans (congrArg some (by kernel_rfl))
  f276:=Tryz.func89.trans (congrArg some (by kernel_rfl))
  f277:=Tryz.func90.trans (congrArg some (by kernel_rfl))
  t0:=Tryz.underlying0
  a0:=Tryz.isAgg0
  z0:=Tryz.sizeOf0
  v0:=Tryz.zeroValue0
  t3:=Tryz.underlying3
  a3:=Tryz.isAgg3
  z3:=Tryz.sizeOf3
  v3:=Tryz.zeroValue3
  t4:=Tryz.underlying4
  a4:=Tryz.isAgg4
  z4:=Tryz.sizeOf4
  v4:=Tryz.zeroValue4
  t9:=Tryz.underlying9
  a9:=Tryz.isAgg9
  z9:=Tryz.sizeOf9
  v9:=Tryz.zeroValue9
  t20:=Tryz.underlying20
  a20:=Tryz.isAgg20
  z20:=Tryz.sizeOf20
  v20:=Tryz.zeroValue20
  t31:=Tryz.underlying39
  a31:=Tryz.isAgg39
  z31:=Tryz.sizeOf39
  v31:=Tryz.zeroValue39
  t37:=Tryz.underlying74
  a37:=Tryz.isAgg74
  z37:=Tryz.sizeOf74
  v37:=Tryz.zeroValue74
  t70:=Tryz.underlying73
  a70:=Tryz.isAgg73
  z70:=Tryz.sizeOf73
  v70:=Tryz.zeroValue73
  t72:=Tryz.underlying76
  a72:=Tryz.isAgg76
  z72:=Tryz.sizeOf76
  v72:=Tryz.zeroValue76
  t75:=Tryz.underlying79
  a75:=Tryz.isAgg79
  z75:=Tryz.sizeOf79
  v75:=Tryz.zeroValue79
  t76:=Tryz.underlying80
  a76:=Tryz.isAgg80
  z76:=Tryz.sizeOf80
  v76:=Tryz.zeroValue80
  t127:=Tryz.underlying97
  a127:=Tryz.isAgg97
  z127:=Tryz.sizeOf97
  v127:=Tryz.zeroValue97
  t164:=Tryz.underlying121
  a164:=Tryz.isAgg121
  z164:=Tryz.sizeOf121
  v164:=Tryz.zeroValue121 }
def Tryz.laysSplit_ren:Go.Shelf.Ren:=⟨fun | 146=>21 | 221=>44 | 268=>60 | 138=>61 | 143=>62 | 195=>85 | 197=>86 | 218=>87 | 219=>88 | 260=>100 | 217=>101 | 225=>93 | 224=>92 | 267=>102 | 266=>104 | 314=>105 | n=>n,fun | 9=>9 | 31=>39 | 3=>3 | 4=>4 | 0=>0 | 105=>118 | 21=>21 | 5=>5 | 46=>89 | 119=>91 | 139=>94 | 138=>93 | 146=>135 | 51=>62 | n=>n,fun | 1=>2 | 3=>0 | 4=>1 | n=>n⟩
theorem Tryz.laysSplit:Go.Proofs.Lays.n146 Tryz.prog Tryz.laysSplit_ren := {
  mixed:=by kernel_rfl
  f138:=Tryz.func61.trans (congrArg some (by kernel_rfl))
  f143:=Tryz.func62.trans (congrArg some (by kernel_rfl))
  f146:=Tryz.func21.trans (congrArg some (by kernel_rfl))
  f195:=Tryz.func85.trans (congrArg some (by kernel_rfl))
  f197:=Tryz.func86.trans (congrArg some (by kernel_rfl))
  f217:=Tryz.func101.trans (congrArg some (by kernel_rfl))
  f218:=Tryz.func87.trans (congrArg some (by kernel_rfl))
  f219:=Tryz.func88.trans (congrArg some (by kernel_rfl))
  f221:=Tryz.func44.trans (congrArg some (by kernel_rfl))
  f224:=Tryz.func92.trans (congrArg some (by kernel_rfl))
  f225:=Tryz.func93.trans (congrArg some (by kernel_rfl))
  f260:=Tryz.func100.trans (congrArg some (by kernel_rfl))
  f266:=Tryz.func104.trans (congrArg some (by kernel_rfl))
  f267:=Tryz.func102.trans (congrArg some (by kernel_rfl))
  f268:=Tryz.func60.trans (congrArg some (by kernel_rfl))
  f314:=Tryz.func105.trans (congrArg some (by kernel_rfl))
  t0:=Tryz.underlying0
  a0:=Tryz.isAgg0
  z0:=Tryz.sizeOf0
  v0:=Tryz.zeroValue0
  t3:=Tryz.underlying3
  a3:=Tryz.isAgg3
  z3:=Tryz.sizeOf3
  v3:=Tryz.zeroValue3
  t4:=Tryz.underlying4
  a4:=Tryz.isAgg4
  z4:=Tryz.sizeOf4
  v4:=Tryz.zeroValue4
  t5:=Tryz.underlying5
  a5:=Tryz.isAgg5
  z5:=Tryz.sizeOf5
  v5:=Tryz.zeroValue5
  t9:=Tryz.underlying9
  a9:=Tryz.isAgg9
  z9:=Tryz.sizeOf9
  v9:=Tryz.zeroValue9
  t21:=Tryz.underlying21
  a21:=Tryz.isAgg21
  z21:=Tryz.sizeOf21
  v21:=Tryz.zeroValue21
  t31:=Tryz.underlying39
  a31:=Tryz.isAgg39
  z31:=Tryz.sizeOf39
  v31:=Tryz.zeroValue39
  t46:=Tryz.underlying89
  a46:=Tryz.isAgg89
  z46:=Tryz.sizeOf89
  v46:=Tryz.zeroValue89
  t51:=Tryz.underlying62
  a51:=Tryz.isAgg62
  z51:=Tryz.sizeOf62
  v51:=Tryz.zeroValue62
  t105:=Tryz.underlying118
  a105:=Tryz.isAgg118
  z105:=Tryz.sizeOf118
  v105:=Tryz.zeroValue118
  t119:=Tryz.underlying91
  a119:=Tryz.isAgg91
  z119:=Tryz.sizeOf91
  t138:=Tryz.underlying93
  a138:=Tryz.isAgg93
  z138:=Tryz.sizeOf93
  v138:=Tryz.zeroValue93
  t139:=Tryz.underlying94
  a139:=Tryz.isAgg94
  z139:=Tryz.sizeOf94
  v139:=Tryz.zeroValue94
  t146:=Tryz.underlying135
  a146:=Tryz.isAgg135
  z146:=Tryz.sizeOf135
  v146:=Tryz.zeroValue135
  g1:=by kernel_rfl
  g3:=by kernel_rfl
  g4:=by kernel_rfl }
def Tryz.laysCut_ren:Go.Shelf.Ren:=⟨fun | 145=>45 | 220=>63 | 219=>88 | 217=>101 | 225=>93 | 224=>92 | 267=>102 | 266=>104 | 314=>105 | n=>n,fun | 9=>9 | 4=>4 | 59=>71 | 3=>3 | 5=>5 | 46=>89 | 146=>135 | 51=>62 | n=>n,fun | 1=>2 | n=>n⟩
theorem Tryz.laysCut:Go.Proofs.Lays.n145 Tryz.prog Tryz.laysCut_ren := {
  mixed:=by kernel_rfl
  f145:=Tryz.func45.trans (congrArg some (by kernel_rfl))
  f217:=Tryz.func101.trans (congrArg some (by kernel_rfl))
  f219:=Tryz.func88.trans (congrArg some (by kernel_rfl))
  f220:=Tryz.func63.trans (congrArg some (by kernel_rfl))
  f224:=Tryz.func92.trans (congrArg some (by kernel_rfl))
  f225:=Tryz.func93.trans (congrArg some (by kernel_rfl))
  f266:=Tryz.func104.trans (congrArg some (by kernel_rfl))
  f267:=Tryz.func102.trans (congrArg some (by kernel_rfl))
  f314:=Tryz.func105.trans (congrArg some (by kernel_rfl))
  t3:=Tryz.underlying3
  a3:=Tryz.isAgg3
  z3:=Tryz.sizeOf3
  v3:=Tryz.zeroValue3
  t4:=Tryz.underlying4
  a4:=Tryz.isAgg4
  z4:=Tryz.sizeOf4
  v4:=Tryz.zeroValue4
  t5:=Tryz.underlying5
  a5:=Tryz.isAgg5
  z5:=Tryz.sizeOf5
  v5:=Tryz.zeroValue5
  t9:=Tryz.underlying9
  a9:=Tryz.isAgg9
  z9:=Tryz.sizeOf9
  v9:=Tryz.zeroValue9
  t46:=Tryz.underlying89
  a46:=Tryz.isAgg89
  z46:=Tryz.sizeOf89
  v46:=Tryz.zeroValue89
  t51:=Tryz.underlying62
  a51:=Tryz.isAgg62
  z51:=Tryz.sizeOf62
  v51:=Tryz.zeroValue62
  t59:=Tryz.underlying71
  a59:=Tryz.isAgg71
  z59:=Tryz.sizeOf71
  v59:=Tryz.zeroValue71
  t146:=Tryz.underlying135
  a146:=Tryz.isAgg135
  z146:=Tryz.sizeOf135
  v146:=Tryz.zeroValue135
  g1:=by kernel_rfl }
def Tryz.laysAny_ren:Go.Shelf.Ren:=⟨fun | 150=>30 | 153=>50 | 152=>68 | 226=>69 | 227=>70 | 228=>71 | 137=>91 | 119=>35 | 224=>92 | 225=>93 | 217=>101 | 266=>104 | n=>n,fun | 9=>9 | 4=>4 | 3=>3 | 5=>5 | 21=>21 | 117=>103 | 116=>102 | 0=>0 | 46=>89 | 124=>125 | n=>n,fun | n=>n⟩
theorem Tryz.laysAny:Go.Proofs.Lays.n150 Tryz.prog Tryz.laysAny_ren := {
  mixed:=by kernel_rfl
  f119:=Tryz.func35.trans (congrArg some (by kernel_rfl))
  f137:=Tryz.func91.trans (congrArg some (by kernel_rfl))
  f150:=Tryz.func30.trans (congrArg some (by kernel_rfl))
  f152:=Tryz.func68.trans (congrArg some (by kernel_rfl))
  f153:=Tryz.func50.trans (congrArg some (by kernel_rfl))
  f217:=Tryz.func101.trans (congrArg some (by kernel_rfl))
  f224:=Tryz.func92.trans (congrArg some (by kernel_rfl))
  f225:=Tryz.func93.trans (congrArg some (by kernel_rfl))
  f226:=Tryz.func69.trans (congrArg some (by kernel_rfl))
  f227:=Tryz.func70.trans (congrArg some (by kernel_rfl))
  f228:=Tryz.func71.trans (congrArg some (by kernel_rfl))
  f266:=Tryz.func104.trans (congrArg some (by kernel_rfl))
  t0:=Tryz.underlying0
  a0:=Tryz.isAgg0
  z0:=Tryz.sizeOf0
  v0:=Tryz.zeroValue0
  t3:=Tryz.underlying3
  a3:=Tryz.isAgg3
  z3:=Tryz.sizeOf3
  v3:=Tryz.zeroValue3
  t4:=Tryz.underlying4
  a4:=Tryz.isAgg4
  z4:=Tryz.sizeOf4
  v4:=Tryz.zeroValue4
  t5:=Tryz.underlying5
  a5:=Tryz.isAgg5
  z5:=Tryz.sizeOf5
  v5:=Tryz.zeroValue5
  t9:=Tryz.underlying9
  a9:=Tryz.isAgg9
  z9:=Tryz.sizeOf9
  v9:=Tryz.zeroValue9
  t21:=Tryz.underlying21
  a21:=Tryz.isAgg21
  z21:=Tryz.sizeOf21
  v21:=Tryz.zeroValue21
  t46:=Tryz.underlying89
  a46:=Tryz.isAgg89
  z46:=Tryz.sizeOf89
  v46:=Tryz.zeroValue89
  t116:=Tryz.underlying102
  a116:=Tryz.isAgg102
  z116:=Tryz.sizeOf102
  t117:=Tryz.underlying103
  a117:=Tryz.isAgg103
  z117:=Tryz.sizeOf103
  v117:=Tryz.zeroValue103
  t124:=Tryz.underlying125
  a124:=Tryz.isAgg125
  z124:=Tryz.sizeOf125
  v124:=Tryz.zeroValue125 }
def Tryz.laysValid_ren:Go.Shelf.Ren:=⟨fun | 196=>37 | 259=>56 | n=>n,fun | 9=>9 | 4=>4 | 3=>3 | 5=>5 | 12=>12 | 119=>91 | 0=>0 | 46=>89 | 139=>94 | 138=>93 | 53=>116 | n=>n,fun | 3=>0 | 4=>1 | n=>n⟩
theorem Tryz.laysValid:Go.Proofs.Lays.n196 Tryz.prog Tryz.laysValid_ren := {
  mixed:=by kernel_rfl
  f196:=Tryz.func37.trans (congrArg some (by kernel_rfl))
  f259:=Tryz.func56.trans (congrArg some (by kernel_rfl))
  t0:=Tryz.underlying0
  a0:=Tryz.isAgg0
  z0:=Tryz.sizeOf0
  v0:=Tryz.zeroValue0
  t3:=Tryz.underlying3
  a3:=Tryz.isAgg3
  z3:=Tryz.sizeOf3
  v3:=Tryz.zeroValue3
  t4:=Tryz.underlying4
  a4:=Tryz.isAgg4
  z4:=Tryz.sizeOf4
  v4:=Tryz.zeroValue4
  t5:=Tryz.underlying5
  a5:=Tryz.isAgg5
  z5:=Tryz.sizeOf5
  v5:=Tryz.zeroValue5
  t9:=Tryz.underlying9
  a9:=Tryz.isAgg9
  z9:=Tryz.sizeOf9
  v9:=Tryz.zeroValue9
  t12:=Tryz.underlying12
  a12:=Tryz.isAgg12
  z12:=Tryz.sizeOf12
  v12:=Tryz.zeroValue12
  t46:=Tryz.underlying89
  a46:=Tryz.isAgg89
  z46:=Tryz.sizeOf89
  v46:=Tryz.zeroValue89
  t53:=Tryz.underlying116
  a53:=Tryz.isAgg116
  z53:=Tryz.sizeOf116
  v53:=Tryz.zeroValue116
  t119:=Tryz.underlying91
  a119:=Tryz.isAgg91
  z119:=Tryz.sizeOf91
  t138:=Tryz.underlying93
  a138:=Tryz.isAgg93
  z138:=Tryz.sizeOf93
  v138:=Tryz.zeroValue93
  t139:=Tryz.underlying94
  a139:=Tryz.isAgg94
  z139:=Tryz.sizeOf94
  v139:=Tryz.zeroValue94
  g3:=by kernel_rfl
  g4:=by kernel_rfl }
theorem Tryz.joinExtra:Builder.Extra Tryz.prog Tryz.laysJoin_ren := {
  sizeBuilder:=by kernel_rfl
  liesBuilder:=by kernel_rfl
  t5:=Tryz.underlying5
  a5:=Tryz.isAgg5
  z5:=Tryz.sizeOf5
  v5:=Tryz.zeroValue5
  infoByte:=by kernel_rfl
  cellsByte:=by kernel_rfl
  sizeByte:=by kernel_rfl
  neB5:=by decide }
end Go.Proofs
end
/- strings.IndexRune and IndexAny, where the bytes looked for are a blank and a line's end. -/
section
set_option linter.unusedVariables false
open Go Go.Proofs
open Go.Shelf Go.RowKit Go.Lib
namespace Go.Proofs.Lex
variable {P:Program} {ρ:Ren}
set_option maxHeartbeats 4000000 in
set_option maxRecDepth 1000000 in
theorem idxRune_err0 (L:Lays.n152 P ρ) (w:World):Calls P (ρ.f 152) #[.string ⟨#[32,10]⟩,.int .i32 65533] w fun e w' => e = .returned (.int .i64 (-1))∧Below w.heap.size w w' := by
  have t3:=L.t3; have a3:=L.a3; have z3:=L.z3; have v3:=L.v3
  have t4:=L.t4; have a4:=L.a4; have z4:=L.z4; have v4:=L.v4
  have t5:=L.t5; have a5:=L.a5; have z5:=L.z5; have v5:=L.v5
  have t9:=L.t9; have a9:=L.a9; have z9:=L.z9; have v9:=L.v9
  have t21:=L.t21; have a21:=L.a21; have z21:=L.z21; have v21:=L.v21
  go_enter L.f152,Body.n152_ntmps ρ
  go_wp2
  go_loopg [5,6] 2 (fun g _ _ wx=>∃ i:Nat,i + g=2∧wx=w.iter ⟨#[32,10]⟩ i)
  case atStart=>exact ⟨0,by omega,rfl⟩
  case round =>
    obtain ⟨i,hig,rfl⟩:=hrel
    cases gk with
    | zero =>
      obtain rfl:i=2:=by omega
      have hnx:=fun ty=>run_next_end (P:=P) w ⟨#[32,10]⟩ 2 ty (by decide)
      go_wp2
      go_ret
      exact ⟨rfl,(Below.refl _ _).alloc (Nat.le_refl _) _⟩
    | succ g =>
      have hi:i < (ByteArray.mk #[32,10]).size:=by show i < 2; omega
      obtain ⟨x,hx⟩:∃ x:UInt8,(ByteArray.mk #[32,10])[i]'hi=x:=⟨_,rfl⟩
      have hx128 : x.toNat < 128 := by
        have h2:i < 2:=hi
        rcases i with _ | _ | i
        · rw [← hx]; show (32:UInt8).toNat < 128; decide
        · rw [← hx]; show (10:UInt8).toNat < 128; decide
        · omega
      have hnx:=fun ty=>run_next_ascii (P:=P) w ⟨#[32,10]⟩ i ty hi (by rw [hx]; exact hx128)
      rw [hx] at hnx
      have hne:((x.toNat:Int) == 65533)=false:=beq_eq_false_iff_ne.2 (by omega)
      go_wp2
      go_roundg g
      case measure=>omega
      case rel=>exact ⟨i + 1,by omega,rfl⟩
set_option maxHeartbeats 4000000 in
set_option maxRecDepth 1000000 in
theorem idxRune_bad0 (L:Lays.n152 P ρ) (w:World) (r:Int) (h1:128 ≤ r) (h2:(r == 65533)=false) (hv:Lib.validRune r=false):Calls P (ρ.f 152) #[.string ⟨#[32,10]⟩,.int .i32 r] w fun e w' => e = .returned (.int .i64 (-1))∧Below w.heap.size w w' := by
  have t3:=L.t3; have a3:=L.a3; have z3:=L.z3; have v3:=L.v3
  have t4:=L.t4; have a4:=L.a4; have z4:=L.z4; have v4:=L.v4
  have t5:=L.t5; have a5:=L.a5; have z5:=L.z5; have v5:=L.v5
  have t9:=L.t9; have a9:=L.a9; have z9:=L.z9; have v9:=L.v9
  have t21:=L.t21; have a21:=L.a21; have z21:=L.z21; have v21:=L.v21
  have e119:∀ args w,(callFunc (ρ.f 119) args).run P w = .ok (.enter (ρ.f 119) args) w:=enters_of L.f119 (by kernel_rfl) rfl
  have h3 : ¬ r < 128:=by omega
  go_enter L.f152,Body.n152_ntmps ρ
  go_wp2_with (go_at_fn (ρ.f 119); refine (Any.utf8_ValidRune { L with } _ _).mono ?_; rintro e w' ⟨rfl,hw⟩; rw [hw,hv])
  go_ret
  exact ⟨rfl,Below.refl _ _⟩
set_option maxHeartbeats 8000000 in
set_option maxRecDepth 1000000 in
theorem idxRune_long (w:World) (r:Int) (h1:128 ≤ r) (h2:(r == 65533)=false) (hv:Lib.validRune r=true) (E:ByteArray) (hE:Utf8.encode r=E) (hs:3 ≤ E.size) (hs4:E.size ≤ 4):Calls Tryz.prog 68 #[.string ⟨#[32,10]⟩,.int .i32 r] w fun e w' => e = .returned (.int .i64 (-1))∧Below w.heap.size w w' := by
  have h3 : ¬ r < 128:=by omega
  have hw1:IntKind.wrap .i64 ((E.size:Int) - 1)=((E.size - 1:Nat):Int):=by rw [IntKind.wrap_i64]; omega
  have hlt : ¬ ((E.size - 1:Nat):Int) < 2:=by omega
  have hV:=Any.utf8_ValidRune (P:=Tryz.prog) (ρ:=Tryz.laysAny_ren) { Tryz.laysAny with } r
  rw [hv] at hV
  go_enter Tryz.func68,Tryz.ntmps68
  go_wp2_with (go_at_call 35; refine (hV _).mono ?_; rintro e w' ⟨rfl,hw⟩)
  go_step3
  go_wp2
  go_loopg [9,10] 0 (fun g x y wx=>x = .int .i64 ((E.size - 1:Nat):Int)∧y = .int .i64 0∧wx=w)
  case atStart=>exact ⟨rfl,rfl,rfl⟩
  case round =>
    obtain ⟨rfl,rfl,rfl⟩:=hrel
    go_wp2
    rw [Exit.noGoto_ret]
    go_ret
    exact ⟨rfl,Below.refl _ _⟩
set_option maxHeartbeats 8000000 in
set_option maxRecDepth 1000000 in
theorem idxRune_two (w:World) (r:Int) (h1:128 ≤ r) (h2:(r == 65533)=false) (hv:Lib.validRune r=true) (E:ByteArray) (hE:Utf8.encode r=E) (hs:E.size=2) (b:UInt8) (hb:128 ≤ b.toNat) (hEb:∀ h:1 < E.size,E[1]'h=b):Calls Tryz.prog 68 #[.string ⟨#[32,10]⟩,.int .i32 r] w fun e w' => e = .returned (.int .i64 (-1))∧Below w.heap.size w w' := by
  have h3 : ¬ r < 128:=by omega
  have hw1:IntKind.wrap .i64 ((E.size:Int) - 1)=1:=by rw [IntKind.wrap_i64]; omega
  have hV:=Any.utf8_ValidRune (P:=Tryz.prog) (ρ:=Tryz.laysAny_ren) { Tryz.laysAny with } r
  rw [hv] at hV
  have hI:=Any.strings_IndexByte (P:=Tryz.prog) (ρ:=Tryz.laysAny_ren) { Tryz.laysAny with }
  go_enter Tryz.func68,Tryz.ntmps68
  go_wp2_with (go_at_call 35; refine (hV _).mono ?_; rintro e w' ⟨rfl,hw⟩)
  go_step3
  go_wp2
  go_loopg [9,10] 0 (fun g x y wx=>x = .int .i64 1∧y = .int .i64 0∧wx=w)
  case atStart=>exact ⟨rfl,rfl,rfl⟩
  case round =>
    obtain ⟨rfl,rfl,rfl⟩:=hrel
    go_wp2
    go_step3
    have hlt1:1 < E.size:=by omega
    have hE1:=hEb hlt1
    have hne : (((ByteArray.mk #[32, 10])[1]'(by decide)).toNat : Int) != (b.toNat : Int) := by
      have:((ByteArray.mk #[32,10])[1]'(by decide)).toNat=10:=rfl
      rw [this]
      simp
      omega
    go_wp2
    go_region
    all_goals go_wp2
    have hlt2:(1:Int) < (E.size:Int):=by omega
    have hz2:IntKind.wrap .i64 2=2:=by decide
    have hind:indexByte [] b = -1:=rfl
    have hI2:=hI (ByteArray.extract ⟨#[32,10]⟩ 2 2) (b.toNat:Int)
    go_region_with (go_at_call 91; refine (hI _ _ _).mono ?_; rintro e w' ⟨rfl,hw⟩; rw [hw])
    all_goals go_wp2
    all_goals
      rw [Exit.noGoto_ret]
      simp only [Exit.inBlock,Exit.then]
      rw [Exit.noGoto_ret]
      go_ret
      exact ⟨rfl,((Below.refl _ _).drew).drew⟩
theorem idxRune_high (w:World) (r:Int) (h1:128 ≤ r):Calls Tryz.prog 68 #[.string ⟨#[32,10]⟩,.int .i32 r] w fun e w' => e = .returned (.int .i64 (-1))∧Below w.heap.size w w' := by
  cases h2:(r == 65533) with
  | true =>
    have e:r=65533:=by simpa using h2
    subst e
    exact idxRune_err0 (P:=Tryz.prog) (ρ:=Tryz.laysAny_ren) { Tryz.laysAny with } w
  | false =>
    cases hv:Lib.validRune r with
    | false=>exact idxRune_bad0 (P:=Tryz.prog) (ρ:=Tryz.laysAny_ren) { Tryz.laysAny with } w r h1 h2 hv
    | true =>
      have hval : Utf8.valid r = true := by
        rw [Go.validRune_eq]
        exact hv
      obtain ⟨f1,f2,f3⟩:=encode_facts r hval h1
      by_cases h3:3 ≤ (Utf8.encode r).size
      · exact idxRune_long w r h1 h2 hv _ rfl h3 f2
      · have hs : (Utf8.encode r).size = 2 := by omega
        refine idxRune_two w r h1 h2 hv _ rfl hs ((Utf8.encode r)[1]'(by omega)) ?_ (fun _=>rfl)
        have h4:=f3 (by omega)
        have e:(Utf8.encode r).size - 1=1:=by omega
        simp only [e] at h4
        exact h4
/-- What a rune takes: it lies in the string, and its bytes are no ASCII where its first is none. -/
theorem decode_in (s:ByteArray) (i:Nat) (h:i < s.size):i + (Utf8.decode s i).2 ≤ s.size:=by
  simp only [Utf8.decode]
  repeat' split
  all_goals simp_all
  all_goals omega
theorem decode_bytes (s:ByteArray) (i:Nat) (h:i < s.size) (ha:128 ≤ (s[i]'h).toNat):∀ k,k < (Utf8.decode s i).2→128 ≤ (s.get! (i + k)).toNat:=by
  have hn : ¬ (s[i]'h).toNat < 128:=by omega
  have h0:128 ≤ (s.get! (i + 0)).toNat:=by rw [get_at s i h]; exact ha
  intro k hk
  have hg:(s.get! (i + 0)).toNat=(s[i]'h).toNat:=by rw [get_at s i h]
  simp only [Utf8.decode,get_at s i h,hn,if_false] at hk
  rcases k with _ | _ | _ | _ | k
  · exact h0
  all_goals
    repeat' split at hk
    all_goals simp_all
    all_goals omega
theorem NoAny_far {s:ByteArray} {i w:Nat} (h:Lib.NoAny s.data.toList [32,10] i) (hb:∀ k,k < w→128 ≤ (s.get! (i + k)).toNat):Lib.NoAny s.data.toList [32,10] (i + w):=by
  intro j b hj hjb
  by_cases hji:j < i
  · exact h j b hji hjb
  · have h1 := hb (j - i) (by omega)
    rw [Nat.add_sub_cancel' (by omega)] at h1
    have hjs : j < s.size := by
      have:=(List.getElem?_eq_some_iff.1 hjb).1
      rw [← Lib.size_eq] at this
      exact this
    have e : s.get! j = b := by
      have h2:=get_at s j hjs
      rw [Nat.add_zero] at h2
      rw [h2]
      have h3:=Lib.data_getElem? s j hjs
      rw [hjb] at h3
      exact (Option.some.inj h3).symm
    rw [e] at h1
    rw [Bool.eq_false_iff]
    intro hc
    simp only [List.contains_cons,List.contains_nil,Bool.or_false,Bool.or_eq_true,beq_iff_eq] at hc
    rcases hc with rfl | rfl
    · exact absurd h1 (by decide)
    · exact absurd h1 (by decide)
set_option maxHeartbeats 8000000 in
set_option maxRecDepth 1000000 in
/-- strings.IndexAny, of a string of at most eight bytes. -/
theorem idxAny_short (s:ByteArray) (w:World) (h8:s.size ≤ 8) :
    Calls Tryz.prog 50 #[.string s,.string ⟨#[32,10]⟩] w fun e w' => e = .returned (.int .i64 (Lib.indexAny s.data.toList [32,10]))∧Below w.heap.size w w' := by
  have h8z:decide ((8:Int) < (s.size:Int))=false:=decide_eq_false (by omega)
  have hU:=Any.strings_shouldUseASCIISet (P:=Tryz.prog) (ρ:=Tryz.laysAny_ren) { Tryz.laysAny with }
  have hA:=fun (r:Int) (w:World) (h0:0 ≤ r) (h1:r < 128)=>Any.strings_IndexRune_ascii (P:=Tryz.prog) (ρ:=Tryz.laysAny_ren) { Tryz.laysAny with } ⟨#[32,10]⟩ r w h0 h1
  have hH:=fun (r:Int) (w:World) (h0:128 ≤ r)=>idxRune_high w r h0
  go_enter Tryz.func50,Tryz.ntmps50
  go_wp2_with (go_at_call 69; refine (hU _ _).mono ?_; rintro e w' ⟨rfl,hw⟩; rw [hw,h8z])
  go_loopg [9,10] s.size (fun g _ _ wx=>∃ i:Nat,i + g=s.size∧wx.heap[w.heap.size]? = some (.stringIter s i)∧Below w.heap.size w wx∧Lib.NoAny s.data.toList [32,10] i)
  case atStart=>exact ⟨0,by omega,World.iter_heap w s 0,(Below.refl _ _).alloc (Nat.le_refl _) _,Lib.NoAny.zero _ _⟩
  case round =>
    obtain ⟨i,hig,hit,hbel,hno⟩:=hrel
    have HN:Aside (Lib.NoAny s.data.toList [32,10] i):=hno
    have HB:Aside (Below w.heap.size w wr):=hbel
    have HI:Aside (wr.heap[w.heap.size]? = some (.stringIter s i)):=hit
    clear hno hbel hit
    have hKlt:w.heap.size < wr.heap.size:=(Array.getElem?_eq_some_iff.1 HI.out).1
    cases gk with
    | zero =>
      obtain rfl:i=s.size:=by omega
      have hnx:=fun ty=>run_next_end_at (P:=Tryz.prog) wr w.heap.size s s.size ty HI.out (by omega)
      go_wp2
      go_ret
      exact ⟨by rw [Lib.indexAny_none (by rw [← Lib.size_eq]; exact HN.out)]; rfl,HB.out⟩
    | succ g =>
      have hi:i < s.size:=by omega
      obtain ⟨x,hx⟩:∃ x:UInt8,s[i]'hi=x:=⟨_,rfl⟩
      have hxl:s.data.toList[i]? = some x:=by rw [← hx]; exact Lib.data_getElem? s i hi
      have Hx:Aside (s.data.toList[i]? = some x):=hxl
      clear hxl
      by_cases hx128:x.toNat < 128
      · have hnx := fun ty => run_next_ascii_at (P := Tryz.prog) wr w.heap.size s i ty HI.out hi (by rw [hx]; exact hx128)
        rw [hx] at hnx
        obtain ⟨wn,hwn⟩:∃ wn,wr.iterAt w.heap.size s (i + 1)=wn:=⟨_,rfl⟩
        have HI' : Aside (wn.heap[w.heap.size]? = some (.stringIter s (i + 1))):=by rw [← hwn]; exact iterAt_heap wr _ s i (i + 1) HI.out
        have HB' : Aside (Below w.heap.size w wn):=by rw [← hwn]; exact below_iterAt HB.out (Nat.le_refl _) s (i + 1)
        rw [hwn] at hnx
        clear hx hwn
        have hcon:=Lib.contains_iff_indexByte [32,10] x
        have hback:((x.toNat:Int)).toNat.toUInt8=x:=by simp
        cases hin:[(32:UInt8),10].contains x
        · rw [hin] at hcon
          have hlt : ¬ ((0:Int) ≤ Lib.indexByte [32,10] x):=of_decide_eq_false hcon.symm
          clear hcon
          go_wp2_with (go_at_call 68; refine (hA _ _ (by omega) (by omega)).mono ?_; rintro e w' ⟨rfl,hw⟩; rw [hw,hback])
          go_roundg g
          case measure=>omega
          case rel=>exact ⟨i + 1,by omega,HI'.out,HB'.out,HN.out.succ Hx.out hin⟩
        · rw [hin] at hcon
          have hge:(0:Int) ≤ Lib.indexByte [32,10] x:=of_decide_eq_true hcon.symm
          clear hcon
          go_wp2_with (go_at_call 68; refine (hA _ _ (by omega) (by omega)).mono ?_; rintro e w' ⟨rfl,hw⟩; rw [hw,hback])
          go_ret
          exact ⟨by rw [Lib.indexAny_hit HN.out Hx.out hin]; rfl,HB'.out⟩
      · have hnx := fun ty => run_next_any_at (P := Tryz.prog) wr w.heap.size s i ty HI.out hi
        have hd:=(decode_high s i hi (by rw [hx]; omega)).1
        have hd1:=(decode_high s i hi (by rw [hx]; omega)).2
        have hin:=decode_in s i hi
        have hfar:Aside (Lib.NoAny s.data.toList [32,10] (i + (Utf8.decode s i).2)):=NoAny_far HN.out (decode_bytes s i hi (by rw [hx]; omega))
        obtain ⟨d,n,hdn⟩:∃ d n,Utf8.decode s i=(d,n):=⟨_,_,rfl⟩
        rw [hdn] at hnx hd hd1 hin hfar
        simp only at hnx hd hd1 hin hfar
        obtain ⟨wn,hwn⟩:∃ wn,wr.iterAt w.heap.size s (i + n)=wn:=⟨_,rfl⟩
        have HI' : Aside (wn.heap[w.heap.size]? = some (.stringIter s (i + n))):=by rw [← hwn]; exact iterAt_heap wr _ s i (i + n) HI.out
        have HB' : Aside (Below w.heap.size w wn):=by rw [← hwn]; exact below_iterAt HB.out (Nat.le_refl _) s (i + n)
        have hszn:w.heap.size < wn.heap.size:=by rw [← hwn,iterAt_size]; exact hKlt
        rw [hwn] at hnx
        clear hx hwn hdn
        go_wp2_with (go_at_call 68; refine (hH _ _ (by omega)).mono ?_; rintro e w2 ⟨rfl,hw2⟩)
        go_roundg (s.size - (i + n))
        case measure=>omega
        case rel =>
          refine ⟨i + n,by omega,?_,HB'.out.trans (hw2.mono (Nat.le_of_lt hszn)),hfar.out⟩
          rw [hw2.block _ hszn]
          exact HI'.out
theorem info126' : (Tryz.prog.info? 102).map (fun i=>(i.zero,i.size))=some (some (.agg (Array.replicate 256 (.bool false))),256):=by kernel_rfl
/-- strings.IndexAny, of any string that is short enough. -/
theorem idxAny_bn (s:ByteArray) (w:World) (hs:s.size < 4294967281) :
    Calls Tryz.prog 50 #[.string s,.string ⟨#[32,10]⟩] w fun e w' => e = .returned (.int .i64 (Lib.indexAny s.data.toList [32,10]))∧Below w.heap.size w w' := by
  by_cases h8:s.size ≤ 8
  · exact idxAny_short s w h8
  · refine (Any.strings_IndexAny_long (P := Tryz.prog) (ρ := Tryz.laysAny_ren) { Tryz.laysAny with } (zero_of_info info126').1 (zero_of_info info126').2 s ⟨#[32, 10]⟩ w (by decide) (by omega) hs (by decide) (fun j b h => ?_)).mono fun e w' ⟨h1, h2⟩ => ⟨h1, ?_⟩
    · have hm : b ∈ [(32 : UInt8), 10] := List.mem_of_getElem? h
      simp only [List.mem_cons,List.not_mem_nil,or_false] at hm
      rcases hm with rfl | rfl <;> decide
    · rw [h2]
      exact ((Below.refl _ _).alloc (Nat.le_refl _) _).alloc (by simp) _
/-- strings.ContainsAny. -/
theorem containsAny_bn (s:ByteArray) (w:World) (hs:s.size < 4294967281) :
    Calls Tryz.prog 30 #[.string s,.string ⟨#[32,10]⟩] w fun e w' => e = .returned (.bool (Lib.containsAny s.data.toList [32,10]))∧Below w.heap.size w w' := by
  have c:=idxAny_bn s w hs
  go_enter Tryz.func30,Tryz.ntmps30
  go_wp2_with (go_at_call 50; refine c.mono ?_; rintro e w' ⟨rfl,hw⟩)
  go_ret
  exact ⟨rfl,hw⟩
end Go.Proofs.Lex
end
/- Lexicon: places in rows of structs; bytes; what lengths a machine bears. -/
section
open Go Go.Vm Go.Proofs
namespace Go.Proofs.Lex
abbrev big:Nat:=140737488355328
theorem w6_id {n:Int} (h0 : -9223372036854775808 ≤ n) (h1:n ≤ 9223372036854775807):w6 n=n:=by
  rw [w6,IntKind.wrap_i64]
  omega
/-- A counter's step. -/
theorem up {i n:Nat} (h:i < n) (hn:n ≤ big):(↑(i + 1):Int)=w6 ((↑i:Int) + 1):=by
  have h2:n ≤ 140737488355328:=hn
  rw [w6_id (by omega) (by omega)]
  omega
theorem at_rows {t e:TypeId} {σ:List Ob} {lk:LK} {n k:Nat} {cs:List AV} {i:Nat} (hu:Tryz.prog.underlying t=some (.slice e)) (he:Tryz.prog.cellsOf e=k) (hi:(Tryz.prog.info? e).isSome=true) (h:i < n) :
    keep σ (indexAddrv Tryz.prog t σ (.list lk n k cs) (i6 (↑i:Int)))=some (.eaddr (cs.drop (i * k)),σ):=by
  unfold indexAddrv
  rw [hu]
  simp only
  rw [if_pos ⟨by omega,by omega,he.symm,hi⟩]
  simp [keep]
theorem flat_drop {α:Type} {c:α→List AV} {k:Nat} (hc:∀ x,(c x).length=k):∀ (l:List α) (i:Nat) (h:i < l.length),(l.flatMap c).drop (i * k)=c l[i] ++ (l.drop (i + 1)).flatMap c
  | x::l,0,_=>by simp
  | x :: l, i + 1, h => by
    rw [List.flatMap_cons,Nat.succ_mul,Nat.add_comm,← List.drop_drop,List.drop_left' (hc x)]
    simpa using flat_drop hc l i (by simpa using h)
  | [],i,h=>by simp at h
theorem flat_len {α:Type} {c:α→List AV} {k:Nat} (hc:∀ x,(c x).length=k):∀ (l:List α),(l.flatMap c).length=l.length * k
  | []=>by simp
  | x::l=>by rw [List.flatMap_cons,List.length_append,hc,flat_len hc l,List.length_cons,Nat.succ_mul,Nat.add_comm]
def d0F:Feat:=⟨⟨#[]⟩,⟨#[]⟩⟩
def d0L:Lexm:=⟨⟨#[]⟩,⟨#[]⟩,⟨#[]⟩,⟨#[]⟩,[]⟩
def emp:ByteArray:=⟨#[]⟩
abbrev nF (F:List Feat) (i:Nat):Feat:=F.getD i d0F
abbrev nL (L:List Lexm) (i:Nat):Lexm:=L.getD i d0L
abbrev nS (l:List ByteArray) (i:Nat):ByteArray:=l.getD i emp
abbrev rF (F:List Feat) (i:Nat):List AV:=(F.flatMap featC).drop (i * 2)
abbrev rL (L:List Lexm) (i:Nat):List AV:=(L.flatMap lexC).drop (i * 5)
theorem getD_lt {α:Type} {l:List α} {i:Nat} {d:α} (h:i < l.length):l.getD i d=l[i]:=by
  rw [List.getD_eq_getElem?_getD,List.getElem?_eq_getElem h]; rfl
theorem featC_len (f:Feat):(featC f).length=2:=rfl
theorem lexC_len (x:Lexm):(lexC x).length=5:=rfl
theorem rF_eq {F:List Feat} {i:Nat} (h:i < F.length):rF F i=featC (nF F i) ++ (F.drop (i + 1)).flatMap featC:=by
  unfold rF nF
  rw [flat_drop featC_len F i h,getD_lt h]
theorem rL_eq {L:List Lexm} {i:Nat} (h:i < L.length):rL L i=lexC (nL L i) ++ (L.drop (i + 1)).flatMap lexC:=by
  unfold rL nL
  rw [flat_drop lexC_len L i h,getD_lt h]
def tF (F:List Feat) (i:Nat):List AV:=(F.drop (i + 1)).flatMap featC
def tL (L:List Lexm) (i:Nat):List AV:=(L.drop (i + 1)).flatMap lexC
def tS (l:List ByteArray) (i:Nat):List AV:=(l.drop (i + 1)).map .str
section
variable {σ:List Ob} {lk:LK}
theorem at_feat {F:List Feat} {i:Nat} (h:i < F.length):keep σ (indexAddrv Tryz.prog 29 σ (.list lk F.length 2 (F.flatMap featC)) (i6 (↑i:Int)))=some (.eaddr (st (nF F i).name::st (nF F i).value::tF F i),σ):=by
  rw [at_rows Tryz.underlying29 (by kernel_rfl) (by kernel_rfl) h]
  rw [show (F.flatMap featC).drop (i * 2)=rF F i from rfl,rF_eq h]
  rfl
theorem at_lex {L:List Lexm} {i:Nat} (h:i < L.length):keep σ (indexAddrv Tryz.prog 23 σ (.list lk L.length 5 (L.flatMap lexC)) (i6 (↑i:Int)))=some (.eaddr (st (nL L i).id::st (nL L i).cat::st (nL L i).stem::st (nL L i).par::lro (nL L i).feats.length 2 ((nL L i).feats.flatMap featC)::tL L i),σ):=by
  rw [at_rows Tryz.underlying23 (by kernel_rfl) (by kernel_rfl) h]
  rw [show (L.flatMap lexC).drop (i * 5)=rL L i from rfl,rL_eq h]
  rfl
theorem at_strs {l:List ByteArray} {i:Nat} (h:i < l.length):keep σ (indexAddrv Tryz.prog 39 σ (.list lk l.length 1 (l.map .str)) (i6 (↑i:Int)))=some (.eaddr (st (nS l i)::tS l i),σ):=by
  rw [at_rows (lk:=lk) (σ:=σ) (n:=l.length) (cs:=l.map .str) (i:=i) Tryz.underlying39 (k:=1) (by kernel_rfl) (by kernel_rfl) h,Nat.mul_one]
  have : (l.map AV.str).drop i = st (nS l i) :: tS l i := by
    rw [← List.map_drop,List.drop_eq_getElem_cons h,List.map_cons,nS,getD_lt h]
    rfl
  rw [this]
/-- The byte at a place. -/
def byteN (s:ByteArray) (i:Nat):Nat:=(s.data.getD i 0).toNat
theorem at_byte {s:ByteArray} {i:Nat} (h:i < s.size):keep σ (indexv Tryz.prog 9 (st s) (i6 (↑i:Int)))=some (.int .u8 (↑(byteN s i):Int),σ):=by
  have h' : i < s.data.size:=h
  unfold indexv
  rw [Tryz.underlying9]
  simp only
  rw [if_pos (by omega)]
  have e : s.data[(↑i : Int).toNat]? = some s.data[i] := by
    rw [Int.toNat_natCast,Array.getElem?_eq_getElem h']
  rw [e]
  simp only [keep,byteN,Array.getD,h',dite_true]
  rfl
end
end Go.Proofs.Lex
end
/- Lexicon: names, walked (printed) -/
section
open Go Go.Vm Go.Proofs
namespace Go.Proofs.Lex
def f43_F0 (s0:ByteArray) (i0:Nat):St :=
  stOf 39 [2,3,4,8,9,10,11,12,13,14,15,16,17,18,19,20,21,22,23,24,25,26,27,28,29,30,31,32,33,34,35,36] [(0,st s0),(5,st s0),(6,i6 (↑(ByteArray.size s0):Int)),(7,i6 (↑i0:Int))] []
def f43_S0 (s0:ByteArray):St :=
  stOf 39 [] [(0,st s0),(2,bo false),(5,st s0),(6,i6 (↑(ByteArray.size s0):Int)),(7,i6 0)] []
abbrev f43_D0:List Nat:=[36,2,35,34,33,32,31,30,29,28,27,26,25,24,23,22,21,20,19,18,17,16,15,14,13,4,12,11,10,3,9,8]
theorem f43_L0 (s0:ByteArray) (X:Ext) (call:Caller) (lf:Nat) (n:Nat) (x:Ex) (S' : St)
  (hn:n < lf)
  (hs:∀ j,j < n→∃ S1,vexec Tryz.prog X call lf 0 noFg (loopN Tryz.f15 0) (f43_F0 s0 j)=some (Ex.normal,S1)∧forget f43_D0 S1=(f43_F0 s0 (j + 1)))
  (he:vexec Tryz.prog X call lf 0 noFg (loopN Tryz.f15 0) (f43_F0 s0 n)=some (x,S'))
  (hx:x ≠ Ex.normal):vexec Tryz.prog X call lf 0 noFg (Go.Code.loop (loopN Tryz.f15 0)) (f43_S0 s0)=some (x,S') :=
  loop_runK (by kernel_rfl) (fun j=>(f43_F0 s0 j)) n hn (by show forget f43_D0 (f43_S0 s0)=(f43_F0 s0 0); unfold f43_F0; show _=_; kernel_rfl) hs he hx
theorem f43_s0_ttt (s0:ByteArray) (X:Ext) (call:Caller) (lf:Nat) (i0:Nat) (n12:Int)
  (h0:decide ((↑i0:Int) < (↑(ByteArray.size s0):Int))=true)
  (h1:keep [] (indexv Tryz.prog 9 (st s0) (i6 (↑i0:Int)))=some (AV.int IntKind.u8 n12,[]))
  (h2:decide (n12 ≥ 97)=true)
  (h3:decide (n12 ≤ 122)=true)
  (e0:(↑(i0 + 1):Int)=w6 ((↑i0:Int) + 1)):∃ S1,vexec Tryz.prog X call lf 0 noFg (loopN Tryz.f15 0) (f43_F0 s0 i0)=some (Ex.normal,S1)∧forget f43_D0 S1=(f43_F0 s0 (i0 + 1)) :=
  ⟨stOf 39 [2] [(0,st s0),(3,i6 (↑i0:Int)),(4,AV.int IntKind.u8 n12),(5,st s0),(6,i6 (↑(ByteArray.size s0):Int)),(7,i6 (w6 ((↑i0:Int) + 1))),(8,bo true),(9,i6 (↑i0:Int)),(10,st s0),(11,i6 (↑i0:Int)),(12,AV.int IntKind.u8 n12),(13,AV.int IntKind.u8 n12),(14,bo true),(15,bo true),(16,AV.int IntKind.u8 n12),(17,bo true),(18,bo true),(19,bo true),(26,bo true),(27,bo true),(30,bo true),(31,bo true),(34,bo true),(35,bo false),(36,i6 (w6 ((↑i0:Int) + 1)))] [],around_sound (ans:=[(1,Ans.b true),(9,Ans.v (AV.int IntKind.u8 n12)),(13,Ans.b true),(18,Ans.b true)]) (by kernel_rfl) (ai h0 (ai h1 (ai h2 (ai h3 trivial)))),by unfold f43_F0; rw [e0]; show _=_; kernel_rfl⟩
theorem f43_s0_ttftt (s0:ByteArray) (X:Ext) (call:Caller) (lf:Nat) (i0:Nat) (n12:Int)
  (h0:decide ((↑i0:Int) < (↑(ByteArray.size s0):Int))=true)
  (h1:keep [] (indexv Tryz.prog 9 (st s0) (i6 (↑i0:Int)))=some (AV.int IntKind.u8 n12,[]))
  (h2:decide (n12 ≥ 97)=true)
  (h3:decide (n12 ≤ 122)=false)
  (h4:decide (n12 ≥ 48)=true)
  (h5:decide (n12 ≤ 57)=true)
  (e0:(↑(i0 + 1):Int)=w6 ((↑i0:Int) + 1)):∃ S1,vexec Tryz.prog X call lf 0 noFg (loopN Tryz.f15 0) (f43_F0 s0 i0)=some (Ex.normal,S1)∧forget f43_D0 S1=(f43_F0 s0 (i0 + 1)) :=
  ⟨stOf 39 [2] [(0,st s0),(3,i6 (↑i0:Int)),(4,AV.int IntKind.u8 n12),(5,st s0),(6,i6 (↑(ByteArray.size s0):Int)),(7,i6 (w6 ((↑i0:Int) + 1))),(8,bo true),(9,i6 (↑i0:Int)),(10,st s0),(11,i6 (↑i0:Int)),(12,AV.int IntKind.u8 n12),(13,AV.int IntKind.u8 n12),(14,bo true),(15,bo true),(16,AV.int IntKind.u8 n12),(17,bo false),(18,bo false),(19,bo false),(20,AV.int IntKind.u8 n12),(21,bo true),(22,bo true),(23,AV.int IntKind.u8 n12),(24,bo true),(25,bo true),(26,bo true),(27,bo true),(30,bo true),(31,bo true),(34,bo true),(35,bo false),(36,i6 (w6 ((↑i0:Int) + 1)))] [],around_sound (ans:=[(1,Ans.b true),(9,Ans.v (AV.int IntKind.u8 n12)),(13,Ans.b true),(18,Ans.b false),(24,Ans.b true),(30,Ans.b true)]) (by kernel_rfl) (ai h0 (ai h1 (ai h2 (ai h3 (ai h4 (ai h5 trivial)))))),by unfold f43_F0; rw [e0]; show _=_; kernel_rfl⟩
theorem f43_s0_ttftft (s0:ByteArray) (X:Ext) (call:Caller) (lf:Nat) (i0:Nat) (n12:Int)
  (h0:decide ((↑i0:Int) < (↑(ByteArray.size s0):Int))=true)
  (h1:keep [] (indexv Tryz.prog 9 (st s0) (i6 (↑i0:Int)))=some (AV.int IntKind.u8 n12,[]))
  (h2:decide (n12 ≥ 97)=true)
  (h3:decide (n12 ≤ 122)=false)
  (h4:decide (n12 ≥ 48)=true)
  (h5:decide (n12 ≤ 57)=false)
  (h6:(n12 == 45)=true)
  (e0:(↑(i0 + 1):Int)=w6 ((↑i0:Int) + 1)):∃ S1,vexec Tryz.prog X call lf 0 noFg (loopN Tryz.f15 0) (f43_F0 s0 i0)=some (Ex.normal,S1)∧forget f43_D0 S1=(f43_F0 s0 (i0 + 1)) :=
  ⟨stOf 39 [2] [(0,st s0),(3,i6 (↑i0:Int)),(4,AV.int IntKind.u8 n12),(5,st s0),(6,i6 (↑(ByteArray.size s0):Int)),(7,i6 (w6 ((↑i0:Int) + 1))),(8,bo true),(9,i6 (↑i0:Int)),(10,st s0),(11,i6 (↑i0:Int)),(12,AV.int IntKind.u8 n12),(13,AV.int IntKind.u8 n12),(14,bo true),(15,bo true),(16,AV.int IntKind.u8 n12),(17,bo false),(18,bo false),(19,bo false),(20,AV.int IntKind.u8 n12),(21,bo true),(22,bo true),(23,AV.int IntKind.u8 n12),(24,bo false),(25,bo false),(26,bo false),(27,bo false),(28,AV.int IntKind.u8 n12),(29,bo true),(30,bo true),(31,bo true),(34,bo true),(35,bo false),(36,i6 (w6 ((↑i0:Int) + 1)))] [],around_sound (ans:=[(1,Ans.b true),(9,Ans.v (AV.int IntKind.u8 n12)),(13,Ans.b true),(18,Ans.b false),(24,Ans.b true),(30,Ans.b false),(38,Ans.b true)]) (by kernel_rfl) (ai h0 (ai h1 (ai h2 (ai h3 (ai h4 (ai h5 (ai h6 trivial))))))),by unfold f43_F0; rw [e0]; show _=_; kernel_rfl⟩
theorem f43_s0_ttftfft (s0:ByteArray) (X:Ext) (call:Caller) (lf:Nat) (i0:Nat) (n12:Int)
  (h0:decide ((↑i0:Int) < (↑(ByteArray.size s0):Int))=true)
  (h1:keep [] (indexv Tryz.prog 9 (st s0) (i6 (↑i0:Int)))=some (AV.int IntKind.u8 n12,[]))
  (h2:decide (n12 ≥ 97)=true)
  (h3:decide (n12 ≤ 122)=false)
  (h4:decide (n12 ≥ 48)=true)
  (h5:decide (n12 ≤ 57)=false)
  (h6:(n12 == 45)=false)
  (h7:(n12 == 95)=true)
  (e0:(↑(i0 + 1):Int)=w6 ((↑i0:Int) + 1)):∃ S1,vexec Tryz.prog X call lf 0 noFg (loopN Tryz.f15 0) (f43_F0 s0 i0)=some (Ex.normal,S1)∧forget f43_D0 S1=(f43_F0 s0 (i0 + 1)) :=
  ⟨stOf 39 [2] [(0,st s0),(3,i6 (↑i0:Int)),(4,AV.int IntKind.u8 n12),(5,st s0),(6,i6 (↑(ByteArray.size s0):Int)),(7,i6 (w6 ((↑i0:Int) + 1))),(8,bo true),(9,i6 (↑i0:Int)),(10,st s0),(11,i6 (↑i0:Int)),(12,AV.int IntKind.u8 n12),(13,AV.int IntKind.u8 n12),(14,bo true),(15,bo true),(16,AV.int IntKind.u8 n12),(17,bo false),(18,bo false),(19,bo false),(20,AV.int IntKind.u8 n12),(21,bo true),(22,bo true),(23,AV.int IntKind.u8 n12),(24,bo false),(25,bo false),(26,bo false),(27,bo false),(28,AV.int IntKind.u8 n12),(29,bo false),(30,bo false),(31,bo false),(32,AV.int IntKind.u8 n12),(33,bo true),(34,bo true),(35,bo false),(36,i6 (w6 ((↑i0:Int) + 1)))] [],around_sound (ans:=[(1,Ans.b true),(9,Ans.v (AV.int IntKind.u8 n12)),(13,Ans.b true),(18,Ans.b false),(24,Ans.b true),(30,Ans.b false),(38,Ans.b false),(44,Ans.b true)]) (by kernel_rfl) (ai h0 (ai h1 (ai h2 (ai h3 (ai h4 (ai h5 (ai h6 (ai h7 trivial)))))))),by unfold f43_F0; rw [e0]; show _=_; kernel_rfl⟩
def f43_S1 (s0:ByteArray) (i0:Nat) (n12:Int):St :=
  stOf 39 [36] [(0,st s0),(2,bo false),(3,i6 (↑i0:Int)),(4,AV.int IntKind.u8 n12),(5,st s0),(6,i6 (↑(ByteArray.size s0):Int)),(7,i6 (↑i0:Int)),(8,bo true),(9,i6 (↑i0:Int)),(10,st s0),(11,i6 (↑i0:Int)),(12,AV.int IntKind.u8 n12),(13,AV.int IntKind.u8 n12),(14,bo true),(15,bo true),(16,AV.int IntKind.u8 n12),(17,bo false),(18,bo false),(19,bo false),(20,AV.int IntKind.u8 n12),(21,bo true),(22,bo true),(23,AV.int IntKind.u8 n12),(24,bo false),(25,bo false),(26,bo false),(27,bo false),(28,AV.int IntKind.u8 n12),(29,bo false),(30,bo false),(31,bo false),(32,AV.int IntKind.u8 n12),(33,bo false),(34,bo false),(35,bo true)] []
theorem f43_r0_ttftfff (s0:ByteArray) (X:Ext) (call:Caller) (lf:Nat) (i0:Nat) (n12:Int)
  (h0:decide ((↑i0:Int) < (↑(ByteArray.size s0):Int))=true)
  (h1:keep [] (indexv Tryz.prog 9 (st s0) (i6 (↑i0:Int)))=some (AV.int IntKind.u8 n12,[]))
  (h2:decide (n12 ≥ 97)=true)
  (h3:decide (n12 ≤ 122)=false)
  (h4:decide (n12 ≥ 48)=true)
  (h5:decide (n12 ≤ 57)=false)
  (h6:(n12 == 45)=false)
  (h7:(n12 == 95)=false):vexec Tryz.prog X call lf 0 noFg (loopN Tryz.f15 0) (f43_F0 s0 i0)=some (Ex.ret,(f43_S1 s0 i0 n12)) :=
  around_sound (ans:=[(1,Ans.b true),(9,Ans.v (AV.int IntKind.u8 n12)),(13,Ans.b true),(18,Ans.b false),(24,Ans.b true),(30,Ans.b false),(38,Ans.b false),(44,Ans.b false)]) (by kernel_rfl) (ai h0 (ai h1 (ai h2 (ai h3 (ai h4 (ai h5 (ai h6 (ai h7 trivial))))))))
theorem f43_plttftfff (s0:ByteArray) (X:Ext) (call:Caller) (lf:Nat) (i0:Nat) (n12:Int)
  (h0:vexec Tryz.prog X call lf 0 noFg (Code.loop (loopN Tryz.f15 0)) (f43_S0 s0)=some (Ex.ret,(f43_S1 s0 i0 n12))):vbody Tryz.prog X call lf noFg Tryz.f15 (codeOf Tryz.f15) [st s0] [] 0=some (bo false,[]) :=
  along_sound (ans:=[(6,Ans.l Ex.ret (f43_S1 s0 i0 n12))]) (by kernel_rfl) (ai h0 trivial)
theorem f43_s0_ttfft (s0:ByteArray) (X:Ext) (call:Caller) (lf:Nat) (i0:Nat) (n12:Int)
  (h0:decide ((↑i0:Int) < (↑(ByteArray.size s0):Int))=true)
  (h1:keep [] (indexv Tryz.prog 9 (st s0) (i6 (↑i0:Int)))=some (AV.int IntKind.u8 n12,[]))
  (h2:decide (n12 ≥ 97)=true)
  (h3:decide (n12 ≤ 122)=false)
  (h4:decide (n12 ≥ 48)=false)
  (h5:(n12 == 45)=true)
  (e0:(↑(i0 + 1):Int)=w6 ((↑i0:Int) + 1)):∃ S1,vexec Tryz.prog X call lf 0 noFg (loopN Tryz.f15 0) (f43_F0 s0 i0)=some (Ex.normal,S1)∧forget f43_D0 S1=(f43_F0 s0 (i0 + 1)) :=
  ⟨stOf 39 [2] [(0,st s0),(3,i6 (↑i0:Int)),(4,AV.int IntKind.u8 n12),(5,st s0),(6,i6 (↑(ByteArray.size s0):Int)),(7,i6 (w6 ((↑i0:Int) + 1))),(8,bo true),(9,i6 (↑i0:Int)),(10,st s0),(11,i6 (↑i0:Int)),(12,AV.int IntKind.u8 n12),(13,AV.int IntKind.u8 n12),(14,bo true),(15,bo true),(16,AV.int IntKind.u8 n12),(17,bo false),(18,bo false),(19,bo false),(20,AV.int IntKind.u8 n12),(21,bo false),(22,bo false),(25,bo false),(26,bo false),(27,bo false),(28,AV.int IntKind.u8 n12),(29,bo true),(30,bo true),(31,bo true),(34,bo true),(35,bo false),(36,i6 (w6 ((↑i0:Int) + 1)))] [],around_sound (ans:=[(1,Ans.b true),(9,Ans.v (AV.int IntKind.u8 n12)),(13,Ans.b true),(18,Ans.b false),(24,Ans.b false),(36,Ans.b true)]) (by kernel_rfl) (ai h0 (ai h1 (ai h2 (ai h3 (ai h4 (ai h5 trivial)))))),by unfold f43_F0; rw [e0]; show _=_; kernel_rfl⟩
theorem f43_s0_ttffft (s0:ByteArray) (X:Ext) (call:Caller) (lf:Nat) (i0:Nat) (n12:Int)
  (h0:decide ((↑i0:Int) < (↑(ByteArray.size s0):Int))=true)
  (h1:keep [] (indexv Tryz.prog 9 (st s0) (i6 (↑i0:Int)))=some (AV.int IntKind.u8 n12,[]))
  (h2:decide (n12 ≥ 97)=true)
  (h3:decide (n12 ≤ 122)=false)
  (h4:decide (n12 ≥ 48)=false)
  (h5:(n12 == 45)=false)
  (h6:(n12 == 95)=true)
  (e0:(↑(i0 + 1):Int)=w6 ((↑i0:Int) + 1)):∃ S1,vexec Tryz.prog X call lf 0 noFg (loopN Tryz.f15 0) (f43_F0 s0 i0)=some (Ex.normal,S1)∧forget f43_D0 S1=(f43_F0 s0 (i0 + 1)) :=
  ⟨stOf 39 [2] [(0,st s0),(3,i6 (↑i0:Int)),(4,AV.int IntKind.u8 n12),(5,st s0),(6,i6 (↑(ByteArray.size s0):Int)),(7,i6 (w6 ((↑i0:Int) + 1))),(8,bo true),(9,i6 (↑i0:Int)),(10,st s0),(11,i6 (↑i0:Int)),(12,AV.int IntKind.u8 n12),(13,AV.int IntKind.u8 n12),(14,bo true),(15,bo true),(16,AV.int IntKind.u8 n12),(17,bo false),(18,bo false),(19,bo false),(20,AV.int IntKind.u8 n12),(21,bo false),(22,bo false),(25,bo false),(26,bo false),(27,bo false),(28,AV.int IntKind.u8 n12),(29,bo false),(30,bo false),(31,bo false),(32,AV.int IntKind.u8 n12),(33,bo true),(34,bo true),(35,bo false),(36,i6 (w6 ((↑i0:Int) + 1)))] [],around_sound (ans:=[(1,Ans.b true),(9,Ans.v (AV.int IntKind.u8 n12)),(13,Ans.b true),(18,Ans.b false),(24,Ans.b false),(36,Ans.b false),(42,Ans.b true)]) (by kernel_rfl) (ai h0 (ai h1 (ai h2 (ai h3 (ai h4 (ai h5 (ai h6 trivial))))))),by unfold f43_F0; rw [e0]; show _=_; kernel_rfl⟩
def f43_S2 (s0:ByteArray) (i0:Nat) (n12:Int):St :=
  stOf 39 [36] [(0,st s0),(2,bo false),(3,i6 (↑i0:Int)),(4,AV.int IntKind.u8 n12),(5,st s0),(6,i6 (↑(ByteArray.size s0):Int)),(7,i6 (↑i0:Int)),(8,bo true),(9,i6 (↑i0:Int)),(10,st s0),(11,i6 (↑i0:Int)),(12,AV.int IntKind.u8 n12),(13,AV.int IntKind.u8 n12),(14,bo true),(15,bo true),(16,AV.int IntKind.u8 n12),(17,bo false),(18,bo false),(19,bo false),(20,AV.int IntKind.u8 n12),(21,bo false),(22,bo false),(25,bo false),(26,bo false),(27,bo false),(28,AV.int IntKind.u8 n12),(29,bo false),(30,bo false),(31,bo false),(32,AV.int IntKind.u8 n12),(33,bo false),(34,bo false),(35,bo true)] []
theorem f43_r0_ttffff (s0:ByteArray) (X:Ext) (call:Caller) (lf:Nat) (i0:Nat) (n12:Int)
  (h0:decide ((↑i0:Int) < (↑(ByteArray.size s0):Int))=true)
  (h1:keep [] (indexv Tryz.prog 9 (st s0) (i6 (↑i0:Int)))=some (AV.int IntKind.u8 n12,[]))
  (h2:decide (n12 ≥ 97)=true)
  (h3:decide (n12 ≤ 122)=false)
  (h4:decide (n12 ≥ 48)=false)
  (h5:(n12 == 45)=false)
  (h6:(n12 == 95)=false):vexec Tryz.prog X call lf 0 noFg (loopN Tryz.f15 0) (f43_F0 s0 i0)=some (Ex.ret,(f43_S2 s0 i0 n12)) :=
  around_sound (ans:=[(1,Ans.b true),(9,Ans.v (AV.int IntKind.u8 n12)),(13,Ans.b true),(18,Ans.b false),(24,Ans.b false),(36,Ans.b false),(42,Ans.b false)]) (by kernel_rfl) (ai h0 (ai h1 (ai h2 (ai h3 (ai h4 (ai h5 (ai h6 trivial)))))))
theorem f43_plttffff (s0:ByteArray) (X:Ext) (call:Caller) (lf:Nat) (i0:Nat) (n12:Int)
  (h0:vexec Tryz.prog X call lf 0 noFg (Code.loop (loopN Tryz.f15 0)) (f43_S0 s0)=some (Ex.ret,(f43_S2 s0 i0 n12))):vbody Tryz.prog X call lf noFg Tryz.f15 (codeOf Tryz.f15) [st s0] [] 0=some (bo false,[]) :=
  along_sound (ans:=[(6,Ans.l Ex.ret (f43_S2 s0 i0 n12))]) (by kernel_rfl) (ai h0 trivial)
theorem f43_s0_tftt (s0:ByteArray) (X:Ext) (call:Caller) (lf:Nat) (i0:Nat) (n12:Int)
  (h0:decide ((↑i0:Int) < (↑(ByteArray.size s0):Int))=true)
  (h1:keep [] (indexv Tryz.prog 9 (st s0) (i6 (↑i0:Int)))=some (AV.int IntKind.u8 n12,[]))
  (h2:decide (n12 ≥ 97)=false)
  (h3:decide (n12 ≥ 48)=true)
  (h4:decide (n12 ≤ 57)=true)
  (e0:(↑(i0 + 1):Int)=w6 ((↑i0:Int) + 1)):∃ S1,vexec Tryz.prog X call lf 0 noFg (loopN Tryz.f15 0) (f43_F0 s0 i0)=some (Ex.normal,S1)∧forget f43_D0 S1=(f43_F0 s0 (i0 + 1)) :=
  ⟨stOf 39 [2] [(0,st s0),(3,i6 (↑i0:Int)),(4,AV.int IntKind.u8 n12),(5,st s0),(6,i6 (↑(ByteArray.size s0):Int)),(7,i6 (w6 ((↑i0:Int) + 1))),(8,bo true),(9,i6 (↑i0:Int)),(10,st s0),(11,i6 (↑i0:Int)),(12,AV.int IntKind.u8 n12),(13,AV.int IntKind.u8 n12),(14,bo false),(15,bo false),(18,bo false),(19,bo false),(20,AV.int IntKind.u8 n12),(21,bo true),(22,bo true),(23,AV.int IntKind.u8 n12),(24,bo true),(25,bo true),(26,bo true),(27,bo true),(30,bo true),(31,bo true),(34,bo true),(35,bo false),(36,i6 (w6 ((↑i0:Int) + 1)))] [],around_sound (ans:=[(1,Ans.b true),(9,Ans.v (AV.int IntKind.u8 n12)),(13,Ans.b false),(22,Ans.b true),(28,Ans.b true)]) (by kernel_rfl) (ai h0 (ai h1 (ai h2 (ai h3 (ai h4 trivial))))),by unfold f43_F0; rw [e0]; show _=_; kernel_rfl⟩
theorem f43_s0_tftft (s0:ByteArray) (X:Ext) (call:Caller) (lf:Nat) (i0:Nat) (n12:Int)
  (h0:decide ((↑i0:Int) < (↑(ByteArray.size s0):Int))=true)
  (h1:keep [] (indexv Tryz.prog 9 (st s0) (i6 (↑i0:Int)))=some (AV.int IntKind.u8 n12,[]))
  (h2:decide (n12 ≥ 97)=false)
  (h3:decide (n12 ≥ 48)=true)
  (h4:decide (n12 ≤ 57)=false)
  (h5:(n12 == 45)=true)
  (e0:(↑(i0 + 1):Int)=w6 ((↑i0:Int) + 1)):∃ S1,vexec Tryz.prog X call lf 0 noFg (loopN Tryz.f15 0) (f43_F0 s0 i0)=some (Ex.normal,S1)∧forget f43_D0 S1=(f43_F0 s0 (i0 + 1)) :=
  ⟨stOf 39 [2] [(0,st s0),(3,i6 (↑i0:Int)),(4,AV.int IntKind.u8 n12),(5,st s0),(6,i6 (↑(ByteArray.size s0):Int)),(7,i6 (w6 ((↑i0:Int) + 1))),(8,bo true),(9,i6 (↑i0:Int)),(10,st s0),(11,i6 (↑i0:Int)),(12,AV.int IntKind.u8 n12),(13,AV.int IntKind.u8 n12),(14,bo false),(15,bo false),(18,bo false),(19,bo false),(20,AV.int IntKind.u8 n12),(21,bo true),(22,bo true),(23,AV.int IntKind.u8 n12),(24,bo false),(25,bo false),(26,bo false),(27,bo false),(28,AV.int IntKind.u8 n12),(29,bo true),(30,bo true),(31,bo true),(34,bo true),(35,bo false),(36,i6 (w6 ((↑i0:Int) + 1)))] [],around_sound (ans:=[(1,Ans.b true),(9,Ans.v (AV.int IntKind.u8 n12)),(13,Ans.b false),(22,Ans.b true),(28,Ans.b false),(36,Ans.b true)]) (by kernel_rfl) (ai h0 (ai h1 (ai h2 (ai h3 (ai h4 (ai h5 trivial)))))),by unfold f43_F0; rw [e0]; show _=_; kernel_rfl⟩
theorem f43_s0_tftfft (s0:ByteArray) (X:Ext) (call:Caller) (lf:Nat) (i0:Nat) (n12:Int)
  (h0:decide ((↑i0:Int) < (↑(ByteArray.size s0):Int))=true)
  (h1:keep [] (indexv Tryz.prog 9 (st s0) (i6 (↑i0:Int)))=some (AV.int IntKind.u8 n12,[]))
  (h2:decide (n12 ≥ 97)=false)
  (h3:decide (n12 ≥ 48)=true)
  (h4:decide (n12 ≤ 57)=false)
  (h5:(n12 == 45)=false)
  (h6:(n12 == 95)=true)
  (e0:(↑(i0 + 1):Int)=w6 ((↑i0:Int) + 1)):∃ S1,vexec Tryz.prog X call lf 0 noFg (loopN Tryz.f15 0) (f43_F0 s0 i0)=some (Ex.normal,S1)∧forget f43_D0 S1=(f43_F0 s0 (i0 + 1)) :=
  ⟨stOf 39 [2] [(0,st s0),(3,i6 (↑i0:Int)),(4,AV.int IntKind.u8 n12),(5,st s0),(6,i6 (↑(ByteArray.size s0):Int)),(7,i6 (w6 ((↑i0:Int) + 1))),(8,bo true),(9,i6 (↑i0:Int)),(10,st s0),(11,i6 (↑i0:Int)),(12,AV.int IntKind.u8 n12),(13,AV.int IntKind.u8 n12),(14,bo false),(15,bo false),(18,bo false),(19,bo false),(20,AV.int IntKind.u8 n12),(21,bo true),(22,bo true),(23,AV.int IntKind.u8 n12),(24,bo false),(25,bo false),(26,bo false),(27,bo false),(28,AV.int IntKind.u8 n12),(29,bo false),(30,bo false),(31,bo false),(32,AV.int IntKind.u8 n12),(33,bo true),(34,bo true),(35,bo false),(36,i6 (w6 ((↑i0:Int) + 1)))] [],around_sound (ans:=[(1,Ans.b true),(9,Ans.v (AV.int IntKind.u8 n12)),(13,Ans.b false),(22,Ans.b true),(28,Ans.b false),(36,Ans.b false),(42,Ans.b true)]) (by kernel_rfl) (ai h0 (ai h1 (ai h2 (ai h3 (ai h4 (ai h5 (ai h6 trivial))))))),by unfold f43_F0; rw [e0]; show _=_; kernel_rfl⟩
def f43_S3 (s0:ByteArray) (i0:Nat) (n12:Int):St :=
  stOf 39 [36] [(0,st s0),(2,bo false),(3,i6 (↑i0:Int)),(4,AV.int IntKind.u8 n12),(5,st s0),(6,i6 (↑(ByteArray.size s0):Int)),(7,i6 (↑i0:Int)),(8,bo true),(9,i6 (↑i0:Int)),(10,st s0),(11,i6 (↑i0:Int)),(12,AV.int IntKind.u8 n12),(13,AV.int IntKind.u8 n12),(14,bo false),(15,bo false),(18,bo false),(19,bo false),(20,AV.int IntKind.u8 n12),(21,bo true),(22,bo true),(23,AV.int IntKind.u8 n12),(24,bo false),(25,bo false),(26,bo false),(27,bo false),(28,AV.int IntKind.u8 n12),(29,bo false),(30,bo false),(31,bo false),(32,AV.int IntKind.u8 n12),(33,bo false),(34,bo false),(35,bo true)] []
theorem f43_r0_tftfff (s0:ByteArray) (X:Ext) (call:Caller) (lf:Nat) (i0:Nat) (n12:Int)
  (h0:decide ((↑i0:Int) < (↑(ByteArray.size s0):Int))=true)
  (h1:keep [] (indexv Tryz.prog 9 (st s0) (i6 (↑i0:Int)))=some (AV.int IntKind.u8 n12,[]))
  (h2:decide (n12 ≥ 97)=false)
  (h3:decide (n12 ≥ 48)=true)
  (h4:decide (n12 ≤ 57)=false)
  (h5:(n12 == 45)=false)
  (h6:(n12 == 95)=false):vexec Tryz.prog X call lf 0 noFg (loopN Tryz.f15 0) (f43_F0 s0 i0)=some (Ex.ret,(f43_S3 s0 i0 n12)) :=
  around_sound (ans:=[(1,Ans.b true),(9,Ans.v (AV.int IntKind.u8 n12)),(13,Ans.b false),(22,Ans.b true),(28,Ans.b false),(36,Ans.b false),(42,Ans.b false)]) (by kernel_rfl) (ai h0 (ai h1 (ai h2 (ai h3 (ai h4 (ai h5 (ai h6 trivial)))))))
theorem f43_pltftfff (s0:ByteArray) (X:Ext) (call:Caller) (lf:Nat) (i0:Nat) (n12:Int)
  (h0:vexec Tryz.prog X call lf 0 noFg (Code.loop (loopN Tryz.f15 0)) (f43_S0 s0)=some (Ex.ret,(f43_S3 s0 i0 n12))):vbody Tryz.prog X call lf noFg Tryz.f15 (codeOf Tryz.f15) [st s0] [] 0=some (bo false,[]) :=
  along_sound (ans:=[(6,Ans.l Ex.ret (f43_S3 s0 i0 n12))]) (by kernel_rfl) (ai h0 trivial)
theorem f43_s0_tfft (s0:ByteArray) (X:Ext) (call:Caller) (lf:Nat) (i0:Nat) (n12:Int)
  (h0:decide ((↑i0:Int) < (↑(ByteArray.size s0):Int))=true)
  (h1:keep [] (indexv Tryz.prog 9 (st s0) (i6 (↑i0:Int)))=some (AV.int IntKind.u8 n12,[]))
  (h2:decide (n12 ≥ 97)=false)
  (h3:decide (n12 ≥ 48)=false)
  (h4:(n12 == 45)=true)
  (e0:(↑(i0 + 1):Int)=w6 ((↑i0:Int) + 1)):∃ S1,vexec Tryz.prog X call lf 0 noFg (loopN Tryz.f15 0) (f43_F0 s0 i0)=some (Ex.normal,S1)∧forget f43_D0 S1=(f43_F0 s0 (i0 + 1)) :=
  ⟨stOf 39 [2] [(0,st s0),(3,i6 (↑i0:Int)),(4,AV.int IntKind.u8 n12),(5,st s0),(6,i6 (↑(ByteArray.size s0):Int)),(7,i6 (w6 ((↑i0:Int) + 1))),(8,bo true),(9,i6 (↑i0:Int)),(10,st s0),(11,i6 (↑i0:Int)),(12,AV.int IntKind.u8 n12),(13,AV.int IntKind.u8 n12),(14,bo false),(15,bo false),(18,bo false),(19,bo false),(20,AV.int IntKind.u8 n12),(21,bo false),(22,bo false),(25,bo false),(26,bo false),(27,bo false),(28,AV.int IntKind.u8 n12),(29,bo true),(30,bo true),(31,bo true),(34,bo true),(35,bo false),(36,i6 (w6 ((↑i0:Int) + 1)))] [],around_sound (ans:=[(1,Ans.b true),(9,Ans.v (AV.int IntKind.u8 n12)),(13,Ans.b false),(22,Ans.b false),(34,Ans.b true)]) (by kernel_rfl) (ai h0 (ai h1 (ai h2 (ai h3 (ai h4 trivial))))),by unfold f43_F0; rw [e0]; show _=_; kernel_rfl⟩
theorem f43_s0_tffft (s0:ByteArray) (X:Ext) (call:Caller) (lf:Nat) (i0:Nat) (n12:Int)
  (h0:decide ((↑i0:Int) < (↑(ByteArray.size s0):Int))=true)
  (h1:keep [] (indexv Tryz.prog 9 (st s0) (i6 (↑i0:Int)))=some (AV.int IntKind.u8 n12,[]))
  (h2:decide (n12 ≥ 97)=false)
  (h3:decide (n12 ≥ 48)=false)
  (h4:(n12 == 45)=false)
  (h5:(n12 == 95)=true)
  (e0:(↑(i0 + 1):Int)=w6 ((↑i0:Int) + 1)):∃ S1,vexec Tryz.prog X call lf 0 noFg (loopN Tryz.f15 0) (f43_F0 s0 i0)=some (Ex.normal,S1)∧forget f43_D0 S1=(f43_F0 s0 (i0 + 1)) :=
  ⟨stOf 39 [2] [(0,st s0),(3,i6 (↑i0:Int)),(4,AV.int IntKind.u8 n12),(5,st s0),(6,i6 (↑(ByteArray.size s0):Int)),(7,i6 (w6 ((↑i0:Int) + 1))),(8,bo true),(9,i6 (↑i0:Int)),(10,st s0),(11,i6 (↑i0:Int)),(12,AV.int IntKind.u8 n12),(13,AV.int IntKind.u8 n12),(14,bo false),(15,bo false),(18,bo false),(19,bo false),(20,AV.int IntKind.u8 n12),(21,bo false),(22,bo false),(25,bo false),(26,bo false),(27,bo false),(28,AV.int IntKind.u8 n12),(29,bo false),(30,bo false),(31,bo false),(32,AV.int IntKind.u8 n12),(33,bo true),(34,bo true),(35,bo false),(36,i6 (w6 ((↑i0:Int) + 1)))] [],around_sound (ans:=[(1,Ans.b true),(9,Ans.v (AV.int IntKind.u8 n12)),(13,Ans.b false),(22,Ans.b false),(34,Ans.b false),(40,Ans.b true)]) (by kernel_rfl) (ai h0 (ai h1 (ai h2 (ai h3 (ai h4 (ai h5 trivial)))))),by unfold f43_F0; rw [e0]; show _=_; kernel_rfl⟩
def f43_S4 (s0:ByteArray) (i0:Nat) (n12:Int):St :=
  stOf 39 [36] [(0,st s0),(2,bo false),(3,i6 (↑i0:Int)),(4,AV.int IntKind.u8 n12),(5,st s0),(6,i6 (↑(ByteArray.size s0):Int)),(7,i6 (↑i0:Int)),(8,bo true),(9,i6 (↑i0:Int)),(10,st s0),(11,i6 (↑i0:Int)),(12,AV.int IntKind.u8 n12),(13,AV.int IntKind.u8 n12),(14,bo false),(15,bo false),(18,bo false),(19,bo false),(20,AV.int IntKind.u8 n12),(21,bo false),(22,bo false),(25,bo false),(26,bo false),(27,bo false),(28,AV.int IntKind.u8 n12),(29,bo false),(30,bo false),(31,bo false),(32,AV.int IntKind.u8 n12),(33,bo false),(34,bo false),(35,bo true)] []
theorem f43_r0_tffff (s0:ByteArray) (X:Ext) (call:Caller) (lf:Nat) (i0:Nat) (n12:Int)
  (h0:decide ((↑i0:Int) < (↑(ByteArray.size s0):Int))=true)
  (h1:keep [] (indexv Tryz.prog 9 (st s0) (i6 (↑i0:Int)))=some (AV.int IntKind.u8 n12,[]))
  (h2:decide (n12 ≥ 97)=false)
  (h3:decide (n12 ≥ 48)=false)
  (h4:(n12 == 45)=false)
  (h5:(n12 == 95)=false):vexec Tryz.prog X call lf 0 noFg (loopN Tryz.f15 0) (f43_F0 s0 i0)=some (Ex.ret,(f43_S4 s0 i0 n12)) :=
  around_sound (ans:=[(1,Ans.b true),(9,Ans.v (AV.int IntKind.u8 n12)),(13,Ans.b false),(22,Ans.b false),(34,Ans.b false),(40,Ans.b false)]) (by kernel_rfl) (ai h0 (ai h1 (ai h2 (ai h3 (ai h4 (ai h5 trivial))))))
theorem f43_pltffff (s0:ByteArray) (X:Ext) (call:Caller) (lf:Nat) (i0:Nat) (n12:Int)
  (h0:vexec Tryz.prog X call lf 0 noFg (Code.loop (loopN Tryz.f15 0)) (f43_S0 s0)=some (Ex.ret,(f43_S4 s0 i0 n12))):vbody Tryz.prog X call lf noFg Tryz.f15 (codeOf Tryz.f15) [st s0] [] 0=some (bo false,[]) :=
  along_sound (ans:=[(6,Ans.l Ex.ret (f43_S4 s0 i0 n12))]) (by kernel_rfl) (ai h0 trivial)
def f43_S5 (s0:ByteArray) (i0:Nat):St :=
  stOf 39 [2,3,4,9,10,11,12,13,14,15,16,17,18,19,20,21,22,23,24,25,26,27,28,29,30,31,32,33,34,35,36] [(0,st s0),(5,st s0),(6,i6 (↑(ByteArray.size s0):Int)),(7,i6 (↑i0:Int)),(8,bo false)] []
theorem f43_r0_f (s0:ByteArray) (X:Ext) (call:Caller) (lf:Nat) (i0:Nat)
  (h0:decide ((↑i0:Int) < (↑(ByteArray.size s0):Int))=false):vexec Tryz.prog X call lf 0 noFg (loopN Tryz.f15 0) (f43_F0 s0 i0)=some (Ex.exit 0,(f43_S5 s0 i0)) :=
  around_sound (ans:=[(1,Ans.b false)]) (by kernel_rfl) (ai h0 trivial)
theorem f43_plft (s0:ByteArray) (X:Ext) (call:Caller) (lf:Nat) (i0:Nat)
  (h0:vexec Tryz.prog X call lf 0 noFg (Code.loop (loopN Tryz.f15 0)) (f43_S0 s0)=some (Ex.exit 0,(f43_S5 s0 i0)))
  (h1:(!ByteArray.toList s0 == ByteArray.toList (ByteArray.mk #[]))=true):vbody Tryz.prog X call lf noFg Tryz.f15 (codeOf Tryz.f15) [st s0] [] 0=some (bo true,[]) :=
  along_sound (ans:=[(6,Ans.l (Ex.exit 0) (f43_S5 s0 i0)),(9,Ans.b true)]) (by kernel_rfl) (ai h0 (ai h1 trivial))
theorem f43_plff (s0:ByteArray) (X:Ext) (call:Caller) (lf:Nat) (i0:Nat)
  (h0:vexec Tryz.prog X call lf 0 noFg (Code.loop (loopN Tryz.f15 0)) (f43_S0 s0)=some (Ex.exit 0,(f43_S5 s0 i0)))
  (h1:(!ByteArray.toList s0 == ByteArray.toList (ByteArray.mk #[]))=false):vbody Tryz.prog X call lf noFg Tryz.f15 (codeOf Tryz.f15) [st s0] [] 0=some (bo false,[]) :=
  along_sound (ans:=[(6,Ans.l (Ex.exit 0) (f43_S5 s0 i0)),(9,Ans.b false)]) (by kernel_rfl) (ai h0 (ai h1 trivial))
def f43_o0 (s0:ByteArray) (i0:Nat) (n12:Int):Nat :=
  (match decide ((↑i0:Int) < (↑(ByteArray.size s0):Int)) with
  | true => (match decide (n12 ≥ 97) with
    | true => (match decide (n12 ≤ 122) with
      | true=>0
      | false => (match decide (n12 ≥ 48) with
        | true => (match decide (n12 ≤ 57) with
          | true=>0
          | false => (match (n12 == 45) with
            | true=>0
            | false => (match (n12 == 95) with
              | true=>0
              | false=>1)))
        | false => (match (n12 == 45) with
          | true=>0
          | false => (match (n12 == 95) with
            | true=>0
            | false=>2))))
    | false => (match decide (n12 ≥ 48) with
      | true => (match decide (n12 ≤ 57) with
        | true=>0
        | false => (match (n12 == 45) with
          | true=>0
          | false => (match (n12 == 95) with
            | true=>0
            | false=>3)))
      | false => (match (n12 == 45) with
        | true=>0
        | false => (match (n12 == 95) with
          | true=>0
          | false=>4))))
  | false=>5)
theorem f43_B0 (s0:ByteArray) (X:Ext) (call:Caller) (lf:Nat) (i0:Nat) (n12:Int)
  (g0:decide ((↑i0:Int) < (↑(ByteArray.size s0):Int))=true→keep [] (indexv Tryz.prog 9 (st s0) (i6 (↑i0:Int)))=some (AV.int IntKind.u8 n12,[]))
  (e0 : decide ((↑i0 : Int) < (↑(ByteArray.size s0) : Int)) = true → (↑(i0 + 1) : Int) = w6 ((↑i0 : Int) + 1)) :
    (f43_o0 s0 i0 n12=0→∃ S1,vexec Tryz.prog X call lf 0 noFg (loopN Tryz.f15 0) (f43_F0 s0 i0)=some (Ex.normal,S1)∧forget f43_D0 S1=(f43_F0 s0 (i0 + 1)))∧(f43_o0 s0 i0 n12=1→vexec Tryz.prog X call lf 0 noFg (loopN Tryz.f15 0) (f43_F0 s0 i0)=some (Ex.ret,(f43_S1 s0 i0 n12)))∧(f43_o0 s0 i0 n12=2→vexec Tryz.prog X call lf 0 noFg (loopN Tryz.f15 0) (f43_F0 s0 i0)=some (Ex.ret,(f43_S2 s0 i0 n12)))∧(f43_o0 s0 i0 n12=3→vexec Tryz.prog X call lf 0 noFg (loopN Tryz.f15 0) (f43_F0 s0 i0)=some (Ex.ret,(f43_S3 s0 i0 n12)))∧(f43_o0 s0 i0 n12=4→vexec Tryz.prog X call lf 0 noFg (loopN Tryz.f15 0) (f43_F0 s0 i0)=some (Ex.ret,(f43_S4 s0 i0 n12)))∧(f43_o0 s0 i0 n12=5→vexec Tryz.prog X call lf 0 noFg (loopN Tryz.f15 0) (f43_F0 s0 i0)=some (Ex.exit 0,(f43_S5 s0 i0))):=by
  unfold f43_o0
  cases c0:decide ((↑i0:Int) < (↑(ByteArray.size s0):Int)) with
  | true =>
    cases c1:decide (n12 ≥ 97) with
    | true =>
      cases c2:decide (n12 ≤ 122) with
      | true =>
        exact ⟨fun _=>f43_s0_ttt s0 X call lf i0 n12 c0 (g0 c0) c1 c2 (e0 c0),fun h=>nq h,fun h=>nq h,fun h=>nq h,fun h=>nq h,fun h=>nq h⟩
      | false =>
        cases c3:decide (n12 ≥ 48) with
        | true =>
          cases c4:decide (n12 ≤ 57) with
          | true =>
            exact ⟨fun _=>f43_s0_ttftt s0 X call lf i0 n12 c0 (g0 c0) c1 c2 c3 c4 (e0 c0),fun h=>nq h,fun h=>nq h,fun h=>nq h,fun h=>nq h,fun h=>nq h⟩
          | false =>
            cases c5:(n12 == 45) with
            | true =>
              exact ⟨fun _=>f43_s0_ttftft s0 X call lf i0 n12 c0 (g0 c0) c1 c2 c3 c4 c5 (e0 c0),fun h=>nq h,fun h=>nq h,fun h=>nq h,fun h=>nq h,fun h=>nq h⟩
            | false =>
              cases c6:(n12 == 95) with
              | true =>
                exact ⟨fun _=>f43_s0_ttftfft s0 X call lf i0 n12 c0 (g0 c0) c1 c2 c3 c4 c5 c6 (e0 c0),fun h=>nq h,fun h=>nq h,fun h=>nq h,fun h=>nq h,fun h=>nq h⟩
              | false =>
                exact ⟨fun h=>nq h,fun _=>f43_r0_ttftfff s0 X call lf i0 n12 c0 (g0 c0) c1 c2 c3 c4 c5 c6,fun h=>nq h,fun h=>nq h,fun h=>nq h,fun h=>nq h⟩
        | false =>
          cases c4:(n12 == 45) with
          | true =>
            exact ⟨fun _=>f43_s0_ttfft s0 X call lf i0 n12 c0 (g0 c0) c1 c2 c3 c4 (e0 c0),fun h=>nq h,fun h=>nq h,fun h=>nq h,fun h=>nq h,fun h=>nq h⟩
          | false =>
            cases c5:(n12 == 95) with
            | true =>
              exact ⟨fun _=>f43_s0_ttffft s0 X call lf i0 n12 c0 (g0 c0) c1 c2 c3 c4 c5 (e0 c0),fun h=>nq h,fun h=>nq h,fun h=>nq h,fun h=>nq h,fun h=>nq h⟩
            | false =>
              exact ⟨fun h=>nq h,fun h=>nq h,fun _=>f43_r0_ttffff s0 X call lf i0 n12 c0 (g0 c0) c1 c2 c3 c4 c5,fun h=>nq h,fun h=>nq h,fun h=>nq h⟩
    | false =>
      cases c2:decide (n12 ≥ 48) with
      | true =>
        cases c3:decide (n12 ≤ 57) with
        | true =>
          exact ⟨fun _=>f43_s0_tftt s0 X call lf i0 n12 c0 (g0 c0) c1 c2 c3 (e0 c0),fun h=>nq h,fun h=>nq h,fun h=>nq h,fun h=>nq h,fun h=>nq h⟩
        | false =>
          cases c4:(n12 == 45) with
          | true =>
            exact ⟨fun _=>f43_s0_tftft s0 X call lf i0 n12 c0 (g0 c0) c1 c2 c3 c4 (e0 c0),fun h=>nq h,fun h=>nq h,fun h=>nq h,fun h=>nq h,fun h=>nq h⟩
          | false =>
            cases c5:(n12 == 95) with
            | true =>
              exact ⟨fun _=>f43_s0_tftfft s0 X call lf i0 n12 c0 (g0 c0) c1 c2 c3 c4 c5 (e0 c0),fun h=>nq h,fun h=>nq h,fun h=>nq h,fun h=>nq h,fun h=>nq h⟩
            | false =>
              exact ⟨fun h=>nq h,fun h=>nq h,fun h=>nq h,fun _=>f43_r0_tftfff s0 X call lf i0 n12 c0 (g0 c0) c1 c2 c3 c4 c5,fun h=>nq h,fun h=>nq h⟩
      | false =>
        cases c3:(n12 == 45) with
        | true =>
          exact ⟨fun _=>f43_s0_tfft s0 X call lf i0 n12 c0 (g0 c0) c1 c2 c3 (e0 c0),fun h=>nq h,fun h=>nq h,fun h=>nq h,fun h=>nq h,fun h=>nq h⟩
        | false =>
          cases c4:(n12 == 95) with
          | true =>
            exact ⟨fun _=>f43_s0_tffft s0 X call lf i0 n12 c0 (g0 c0) c1 c2 c3 c4 (e0 c0),fun h=>nq h,fun h=>nq h,fun h=>nq h,fun h=>nq h,fun h=>nq h⟩
          | false =>
            exact ⟨fun h=>nq h,fun h=>nq h,fun h=>nq h,fun h=>nq h,fun _=>f43_r0_tffff s0 X call lf i0 n12 c0 (g0 c0) c1 c2 c3 c4,fun h=>nq h⟩
  | false =>
    exact ⟨fun h=>nq h,fun h=>nq h,fun h=>nq h,fun h=>nq h,fun h=>nq h,fun _=>f43_r0_f s0 X call lf i0 c0⟩
theorem f43_X0 (s0:ByteArray) (X:Ext) (call:Caller) (lf:Nat) (i0:Nat) (n12:Int)
  (g0 : decide ((↑i0 : Int) < (↑(ByteArray.size s0) : Int)) = true → keep [] (indexv Tryz.prog 9 (st s0) (i6 (↑i0 : Int))) = some (AV.int IntKind.u8 n12, [])) :
    (f43_o0 s0 i0 n12=1→vexec Tryz.prog X call lf 0 noFg (loopN Tryz.f15 0) (f43_F0 s0 i0)=some (Ex.ret,(f43_S1 s0 i0 n12)))∧(f43_o0 s0 i0 n12=2→vexec Tryz.prog X call lf 0 noFg (loopN Tryz.f15 0) (f43_F0 s0 i0)=some (Ex.ret,(f43_S2 s0 i0 n12)))∧(f43_o0 s0 i0 n12=3→vexec Tryz.prog X call lf 0 noFg (loopN Tryz.f15 0) (f43_F0 s0 i0)=some (Ex.ret,(f43_S3 s0 i0 n12)))∧(f43_o0 s0 i0 n12=4→vexec Tryz.prog X call lf 0 noFg (loopN Tryz.f15 0) (f43_F0 s0 i0)=some (Ex.ret,(f43_S4 s0 i0 n12)))∧(f43_o0 s0 i0 n12=5→vexec Tryz.prog X call lf 0 noFg (loopN Tryz.f15 0) (f43_F0 s0 i0)=some (Ex.exit 0,(f43_S5 s0 i0))):=by
  unfold f43_o0
  cases c0:decide ((↑i0:Int) < (↑(ByteArray.size s0):Int)) with
  | true =>
    cases c1:decide (n12 ≥ 97) with
    | true =>
      cases c2:decide (n12 ≤ 122) with
      | true =>
        exact ⟨fun h=>nq h,fun h=>nq h,fun h=>nq h,fun h=>nq h,fun h=>nq h⟩
      | false =>
        cases c3:decide (n12 ≥ 48) with
        | true =>
          cases c4:decide (n12 ≤ 57) with
          | true =>
            exact ⟨fun h=>nq h,fun h=>nq h,fun h=>nq h,fun h=>nq h,fun h=>nq h⟩
          | false =>
            cases c5:(n12 == 45) with
            | true =>
              exact ⟨fun h=>nq h,fun h=>nq h,fun h=>nq h,fun h=>nq h,fun h=>nq h⟩
            | false =>
              cases c6:(n12 == 95) with
              | true =>
                exact ⟨fun h=>nq h,fun h=>nq h,fun h=>nq h,fun h=>nq h,fun h=>nq h⟩
              | false =>
                exact ⟨fun _=>f43_r0_ttftfff s0 X call lf i0 n12 c0 (g0 c0) c1 c2 c3 c4 c5 c6,fun h=>nq h,fun h=>nq h,fun h=>nq h,fun h=>nq h⟩
        | false =>
          cases c4:(n12 == 45) with
          | true =>
            exact ⟨fun h=>nq h,fun h=>nq h,fun h=>nq h,fun h=>nq h,fun h=>nq h⟩
          | false =>
            cases c5:(n12 == 95) with
            | true =>
              exact ⟨fun h=>nq h,fun h=>nq h,fun h=>nq h,fun h=>nq h,fun h=>nq h⟩
            | false =>
              exact ⟨fun h=>nq h,fun _=>f43_r0_ttffff s0 X call lf i0 n12 c0 (g0 c0) c1 c2 c3 c4 c5,fun h=>nq h,fun h=>nq h,fun h=>nq h⟩
    | false =>
      cases c2:decide (n12 ≥ 48) with
      | true =>
        cases c3:decide (n12 ≤ 57) with
        | true =>
          exact ⟨fun h=>nq h,fun h=>nq h,fun h=>nq h,fun h=>nq h,fun h=>nq h⟩
        | false =>
          cases c4:(n12 == 45) with
          | true =>
            exact ⟨fun h=>nq h,fun h=>nq h,fun h=>nq h,fun h=>nq h,fun h=>nq h⟩
          | false =>
            cases c5:(n12 == 95) with
            | true =>
              exact ⟨fun h=>nq h,fun h=>nq h,fun h=>nq h,fun h=>nq h,fun h=>nq h⟩
            | false =>
              exact ⟨fun h=>nq h,fun h=>nq h,fun _=>f43_r0_tftfff s0 X call lf i0 n12 c0 (g0 c0) c1 c2 c3 c4 c5,fun h=>nq h,fun h=>nq h⟩
      | false =>
        cases c3:(n12 == 45) with
        | true =>
          exact ⟨fun h=>nq h,fun h=>nq h,fun h=>nq h,fun h=>nq h,fun h=>nq h⟩
        | false =>
          cases c4:(n12 == 95) with
          | true =>
            exact ⟨fun h=>nq h,fun h=>nq h,fun h=>nq h,fun h=>nq h,fun h=>nq h⟩
          | false =>
            exact ⟨fun h=>nq h,fun h=>nq h,fun h=>nq h,fun _=>f43_r0_tffff s0 X call lf i0 n12 c0 (g0 c0) c1 c2 c3 c4,fun h=>nq h⟩
  | false =>
    exact ⟨fun h=>nq h,fun h=>nq h,fun h=>nq h,fun h=>nq h,fun _=>f43_r0_f s0 X call lf i0 c0⟩
theorem f43_M (s0:ByteArray) (X:Ext) (call:Caller) (lf:Nat) (n:Nat) (n12:Nat→Int)
  (hn:n < lf)
  (g0:∀ i0,i0 ≤ n→decide ((↑i0:Int) < (↑(ByteArray.size s0):Int))=true→keep [] (indexv Tryz.prog 9 (st s0) (i6 (↑i0:Int)))=some (AV.int IntKind.u8 (n12 i0),[]))
  (e0:∀ i0,i0 < n→decide ((↑i0:Int) < (↑(ByteArray.size s0):Int))=true→(↑(i0 + 1):Int)=w6 ((↑i0:Int) + 1))
  (hz : ∀ j, j < n → f43_o0 s0 j (n12 j) = 0) :
    (f43_o0 s0 n (n12 n)=1→vbody Tryz.prog X call lf noFg Tryz.f15 (codeOf Tryz.f15) [st s0] [] 0=some (bo false,[]))∧(f43_o0 s0 n (n12 n)=2→vbody Tryz.prog X call lf noFg Tryz.f15 (codeOf Tryz.f15) [st s0] [] 0=some (bo false,[]))∧(f43_o0 s0 n (n12 n)=3→vbody Tryz.prog X call lf noFg Tryz.f15 (codeOf Tryz.f15) [st s0] [] 0=some (bo false,[]))∧(f43_o0 s0 n (n12 n)=4→vbody Tryz.prog X call lf noFg Tryz.f15 (codeOf Tryz.f15) [st s0] [] 0=some (bo false,[]))∧(f43_o0 s0 n (n12 n)=5→(!ByteArray.toList s0 == ByteArray.toList (ByteArray.mk #[]))=true→vbody Tryz.prog X call lf noFg Tryz.f15 (codeOf Tryz.f15) [st s0] [] 0=some (bo true,[]))∧(f43_o0 s0 n (n12 n)=5→(!ByteArray.toList s0 == ByteArray.toList (ByteArray.mk #[]))=false→vbody Tryz.prog X call lf noFg Tryz.f15 (codeOf Tryz.f15) [st s0] [] 0=some (bo false,[])):=by
  have key:∀ j,j < n→_:=fun j hj=>(f43_B0 s0 X call lf j (n12 j) (g0 j (Nat.le_of_lt hj)) (e0 j hj)).1 (hz j hj)
  have kn:=f43_X0 s0 X call lf n (n12 n) (g0 n (Nat.le_refl n))
  exact ⟨fun hk => f43_plttftfff s0 X call lf n (n12 n) (f43_L0 s0 X call lf n _ _ hn key (kn.1 hk) (by simp)),
    fun hk=>f43_plttffff s0 X call lf n (n12 n) (f43_L0 s0 X call lf n _ _ hn key (kn.2.1 hk) (by simp)),
    fun hk=>f43_pltftfff s0 X call lf n (n12 n) (f43_L0 s0 X call lf n _ _ hn key (kn.2.2.1 hk) (by simp)),
    fun hk=>f43_pltffff s0 X call lf n (n12 n) (f43_L0 s0 X call lf n _ _ hn key (kn.2.2.2.1 hk) (by simp)),
    fun hk q0=>f43_plft s0 X call lf n (f43_L0 s0 X call lf n _ _ hn key (kn.2.2.2.2 hk) (by simp)) q0,
    fun hk q0=>f43_plff s0 X call lf n (f43_L0 s0 X call lf n _ _ hn key (kn.2.2.2.2 hk) (by simp)) q0⟩
def f49_F0 (s0:ByteArray) (i0:Nat):St :=
  stOf 39 [2,4,5,6,7,8,9,10,11,12,13,14,15,16,17,18,19,20,21,22,23,24,25,26,27,28,29,30,31,32,33,34,35] [(0,st s0),(3,i6 (↑i0:Int))] []
abbrev f49_D0:List Nat:=[10,9,2,35,34,33,32,31,30,29,28,27,26,25,24,23,22,21,20,19,18,17,16,15,14,4,13,12,11,8,7,6,5]
theorem f49_L0 (s0:ByteArray) (X:Ext) (call:Caller) (lf:Nat) (n:Nat) (x:Ex) (S' : St)
  (hn:n < lf)
  (hs:∀ j,j < n→∃ S1,vexec Tryz.prog X call lf 0 noFg (loopN Tryz.f41 0) (f49_F0 s0 j)=some (Ex.normal,S1)∧forget f49_D0 S1=(f49_F0 s0 (j + 1)))
  (he:vexec Tryz.prog X call lf 0 noFg (loopN Tryz.f41 0) (f49_F0 s0 n)=some (x,S'))
  (hx:x ≠ Ex.normal):vexec Tryz.prog X call lf 0 noFg (Go.Code.loop (loopN Tryz.f41 0)) (stOf 39 [] [(0,st s0),(2,bo false),(3,i6 0)] [])=some (x,S') :=
  loop_runK (by kernel_rfl) (fun j=>(f49_F0 s0 j)) n hn (by show forget f49_D0 (stOf 39 [] [(0,st s0),(2,bo false),(3,i6 0)] [])=(f49_F0 s0 0); unfold f49_F0; show _=_; kernel_rfl) hs he hx
def f49_S0 (s0:ByteArray) (i0:Nat) (n13:Int):St :=
  stOf 39 [9,10] [(0,st s0),(2,bo false),(3,i6 (↑i0:Int)),(4,AV.int IntKind.u8 n13),(5,i6 (↑i0:Int)),(6,st s0),(7,i6 (↑(ByteArray.size s0):Int)),(8,bo true),(11,st s0),(12,i6 (↑i0:Int)),(13,AV.int IntKind.u8 n13),(14,AV.int IntKind.u8 n13),(15,bo true),(16,bo true),(19,bo true),(20,bo true),(21,AV.int IntKind.u8 n13),(22,bo true),(23,bo true),(26,bo true),(27,bo true),(28,bo true),(29,AV.int IntKind.u8 n13),(30,bo true),(31,bo true),(32,bo true),(33,AV.int IntKind.u8 n13),(34,bo true),(35,bo true)] []
theorem f49_r0_ttttt (s0:ByteArray) (X:Ext) (call:Caller) (lf:Nat) (i0:Nat) (n13:Int)
  (h0:decide ((↑i0:Int) < (↑(ByteArray.size s0):Int))=true)
  (h1:keep [] (indexv Tryz.prog 9 (st s0) (i6 (↑i0:Int)))=some (AV.int IntKind.u8 n13,[]))
  (h2:decide (n13 < 97)=true)
  (h3:decide (n13 < 48)=true)
  (h4:(n13 != 45)=true)
  (h5:(n13 != 95)=true):vexec Tryz.prog X call lf 0 noFg (loopN Tryz.f41 0) (f49_F0 s0 i0)=some (Ex.ret,(f49_S0 s0 i0 n13)) :=
  around_sound (ans:=[(4,Ans.b true),(9,Ans.v (AV.int IntKind.u8 n13)),(13,Ans.b true),(22,Ans.b true),(34,Ans.b true),(40,Ans.b true)]) (by kernel_rfl) (ai h0 (ai h1 (ai h2 (ai h3 (ai h4 (ai h5 trivial))))))
theorem f49_plttttt (s0:ByteArray) (X:Ext) (call:Caller) (lf:Nat) (i0:Nat) (n13:Int)
  (h0:vexec Tryz.prog X call lf 0 noFg (Code.loop (loopN Tryz.f41 0)) (stOf 39 [] [(0,st s0),(2,bo false),(3,i6 0)] [])=some (Ex.ret,(f49_S0 s0 i0 n13))):vbody Tryz.prog X call lf noFg Tryz.f41 (codeOf Tryz.f41) [st s0] [] 0=some (bo false,[]) :=
  along_sound (ans:=[(4,Ans.l Ex.ret (f49_S0 s0 i0 n13))]) (by kernel_rfl) (ai h0 trivial)
theorem f49_s0_ttttf (s0:ByteArray) (X:Ext) (call:Caller) (lf:Nat) (i0:Nat) (n13:Int)
  (h0:decide ((↑i0:Int) < (↑(ByteArray.size s0):Int))=true)
  (h1:keep [] (indexv Tryz.prog 9 (st s0) (i6 (↑i0:Int)))=some (AV.int IntKind.u8 n13,[]))
  (h2:decide (n13 < 97)=true)
  (h3:decide (n13 < 48)=true)
  (h4:(n13 != 45)=true)
  (h5:(n13 != 95)=false)
  (e0:(↑(i0 + 1):Int)=w6 ((↑i0:Int) + 1)):∃ S1,vexec Tryz.prog X call lf 0 noFg (loopN Tryz.f41 0) (f49_F0 s0 i0)=some (Ex.normal,S1)∧forget f49_D0 S1=(f49_F0 s0 (i0 + 1)) :=
  ⟨stOf 39 [2] [(0,st s0),(3,i6 (w6 ((↑i0:Int) + 1))),(4,AV.int IntKind.u8 n13),(5,i6 (↑i0:Int)),(6,st s0),(7,i6 (↑(ByteArray.size s0):Int)),(8,bo true),(9,i6 (↑i0:Int)),(10,i6 (w6 ((↑i0:Int) + 1))),(11,st s0),(12,i6 (↑i0:Int)),(13,AV.int IntKind.u8 n13),(14,AV.int IntKind.u8 n13),(15,bo true),(16,bo true),(19,bo true),(20,bo true),(21,AV.int IntKind.u8 n13),(22,bo true),(23,bo true),(26,bo true),(27,bo true),(28,bo true),(29,AV.int IntKind.u8 n13),(30,bo true),(31,bo true),(32,bo true),(33,AV.int IntKind.u8 n13),(34,bo false),(35,bo false)] [],around_sound (ans:=[(4,Ans.b true),(9,Ans.v (AV.int IntKind.u8 n13)),(13,Ans.b true),(22,Ans.b true),(34,Ans.b true),(40,Ans.b false)]) (by kernel_rfl) (ai h0 (ai h1 (ai h2 (ai h3 (ai h4 (ai h5 trivial)))))),by unfold f49_F0; rw [e0]; show _=_; kernel_rfl⟩
theorem f49_s0_tttf (s0:ByteArray) (X:Ext) (call:Caller) (lf:Nat) (i0:Nat) (n13:Int)
  (h0:decide ((↑i0:Int) < (↑(ByteArray.size s0):Int))=true)
  (h1:keep [] (indexv Tryz.prog 9 (st s0) (i6 (↑i0:Int)))=some (AV.int IntKind.u8 n13,[]))
  (h2:decide (n13 < 97)=true)
  (h3:decide (n13 < 48)=true)
  (h4:(n13 != 45)=false)
  (e0:(↑(i0 + 1):Int)=w6 ((↑i0:Int) + 1)):∃ S1,vexec Tryz.prog X call lf 0 noFg (loopN Tryz.f41 0) (f49_F0 s0 i0)=some (Ex.normal,S1)∧forget f49_D0 S1=(f49_F0 s0 (i0 + 1)) :=
  ⟨stOf 39 [2] [(0,st s0),(3,i6 (w6 ((↑i0:Int) + 1))),(4,AV.int IntKind.u8 n13),(5,i6 (↑i0:Int)),(6,st s0),(7,i6 (↑(ByteArray.size s0):Int)),(8,bo true),(9,i6 (↑i0:Int)),(10,i6 (w6 ((↑i0:Int) + 1))),(11,st s0),(12,i6 (↑i0:Int)),(13,AV.int IntKind.u8 n13),(14,AV.int IntKind.u8 n13),(15,bo true),(16,bo true),(19,bo true),(20,bo true),(21,AV.int IntKind.u8 n13),(22,bo true),(23,bo true),(26,bo true),(27,bo true),(28,bo true),(29,AV.int IntKind.u8 n13),(30,bo false),(31,bo false),(32,bo false),(35,bo false)] [],around_sound (ans:=[(4,Ans.b true),(9,Ans.v (AV.int IntKind.u8 n13)),(13,Ans.b true),(22,Ans.b true),(34,Ans.b false)]) (by kernel_rfl) (ai h0 (ai h1 (ai h2 (ai h3 (ai h4 trivial))))),by unfold f49_F0; rw [e0]; show _=_; kernel_rfl⟩
def f49_S1 (s0:ByteArray) (i0:Nat) (n13:Int):St :=
  stOf 39 [9,10] [(0,st s0),(2,bo false),(3,i6 (↑i0:Int)),(4,AV.int IntKind.u8 n13),(5,i6 (↑i0:Int)),(6,st s0),(7,i6 (↑(ByteArray.size s0):Int)),(8,bo true),(11,st s0),(12,i6 (↑i0:Int)),(13,AV.int IntKind.u8 n13),(14,AV.int IntKind.u8 n13),(15,bo true),(16,bo true),(19,bo true),(20,bo true),(21,AV.int IntKind.u8 n13),(22,bo false),(23,bo false),(24,AV.int IntKind.u8 n13),(25,bo true),(26,bo true),(27,bo true),(28,bo true),(29,AV.int IntKind.u8 n13),(30,bo true),(31,bo true),(32,bo true),(33,AV.int IntKind.u8 n13),(34,bo true),(35,bo true)] []
theorem f49_r0_ttfttt (s0:ByteArray) (X:Ext) (call:Caller) (lf:Nat) (i0:Nat) (n13:Int)
  (h0:decide ((↑i0:Int) < (↑(ByteArray.size s0):Int))=true)
  (h1:keep [] (indexv Tryz.prog 9 (st s0) (i6 (↑i0:Int)))=some (AV.int IntKind.u8 n13,[]))
  (h2:decide (n13 < 97)=true)
  (h3:decide (n13 < 48)=false)
  (h4:decide (n13 > 57)=true)
  (h5:(n13 != 45)=true)
  (h6:(n13 != 95)=true):vexec Tryz.prog X call lf 0 noFg (loopN Tryz.f41 0) (f49_F0 s0 i0)=some (Ex.ret,(f49_S1 s0 i0 n13)) :=
  around_sound (ans:=[(4,Ans.b true),(9,Ans.v (AV.int IntKind.u8 n13)),(13,Ans.b true),(22,Ans.b false),(28,Ans.b true),(36,Ans.b true),(42,Ans.b true)]) (by kernel_rfl) (ai h0 (ai h1 (ai h2 (ai h3 (ai h4 (ai h5 (ai h6 trivial)))))))
theorem f49_plttfttt (s0:ByteArray) (X:Ext) (call:Caller) (lf:Nat) (i0:Nat) (n13:Int)
  (h0:vexec Tryz.prog X call lf 0 noFg (Code.loop (loopN Tryz.f41 0)) (stOf 39 [] [(0,st s0),(2,bo false),(3,i6 0)] [])=some (Ex.ret,(f49_S1 s0 i0 n13))):vbody Tryz.prog X call lf noFg Tryz.f41 (codeOf Tryz.f41) [st s0] [] 0=some (bo false,[]) :=
  along_sound (ans:=[(4,Ans.l Ex.ret (f49_S1 s0 i0 n13))]) (by kernel_rfl) (ai h0 trivial)
theorem f49_s0_ttfttf (s0:ByteArray) (X:Ext) (call:Caller) (lf:Nat) (i0:Nat) (n13:Int)
  (h0:decide ((↑i0:Int) < (↑(ByteArray.size s0):Int))=true)
  (h1:keep [] (indexv Tryz.prog 9 (st s0) (i6 (↑i0:Int)))=some (AV.int IntKind.u8 n13,[]))
  (h2:decide (n13 < 97)=true)
  (h3:decide (n13 < 48)=false)
  (h4:decide (n13 > 57)=true)
  (h5:(n13 != 45)=true)
  (h6:(n13 != 95)=false)
  (e0:(↑(i0 + 1):Int)=w6 ((↑i0:Int) + 1)):∃ S1,vexec Tryz.prog X call lf 0 noFg (loopN Tryz.f41 0) (f49_F0 s0 i0)=some (Ex.normal,S1)∧forget f49_D0 S1=(f49_F0 s0 (i0 + 1)) :=
  ⟨stOf 39 [2] [(0,st s0),(3,i6 (w6 ((↑i0:Int) + 1))),(4,AV.int IntKind.u8 n13),(5,i6 (↑i0:Int)),(6,st s0),(7,i6 (↑(ByteArray.size s0):Int)),(8,bo true),(9,i6 (↑i0:Int)),(10,i6 (w6 ((↑i0:Int) + 1))),(11,st s0),(12,i6 (↑i0:Int)),(13,AV.int IntKind.u8 n13),(14,AV.int IntKind.u8 n13),(15,bo true),(16,bo true),(19,bo true),(20,bo true),(21,AV.int IntKind.u8 n13),(22,bo false),(23,bo false),(24,AV.int IntKind.u8 n13),(25,bo true),(26,bo true),(27,bo true),(28,bo true),(29,AV.int IntKind.u8 n13),(30,bo true),(31,bo true),(32,bo true),(33,AV.int IntKind.u8 n13),(34,bo false),(35,bo false)] [],around_sound (ans:=[(4,Ans.b true),(9,Ans.v (AV.int IntKind.u8 n13)),(13,Ans.b true),(22,Ans.b false),(28,Ans.b true),(36,Ans.b true),(42,Ans.b false)]) (by kernel_rfl) (ai h0 (ai h1 (ai h2 (ai h3 (ai h4 (ai h5 (ai h6 trivial))))))),by unfold f49_F0; rw [e0]; show _=_; kernel_rfl⟩
theorem f49_s0_ttftf (s0:ByteArray) (X:Ext) (call:Caller) (lf:Nat) (i0:Nat) (n13:Int)
  (h0:decide ((↑i0:Int) < (↑(ByteArray.size s0):Int))=true)
  (h1:keep [] (indexv Tryz.prog 9 (st s0) (i6 (↑i0:Int)))=some (AV.int IntKind.u8 n13,[]))
  (h2:decide (n13 < 97)=true)
  (h3:decide (n13 < 48)=false)
  (h4:decide (n13 > 57)=true)
  (h5:(n13 != 45)=false)
  (e0:(↑(i0 + 1):Int)=w6 ((↑i0:Int) + 1)):∃ S1,vexec Tryz.prog X call lf 0 noFg (loopN Tryz.f41 0) (f49_F0 s0 i0)=some (Ex.normal,S1)∧forget f49_D0 S1=(f49_F0 s0 (i0 + 1)) :=
  ⟨stOf 39 [2] [(0,st s0),(3,i6 (w6 ((↑i0:Int) + 1))),(4,AV.int IntKind.u8 n13),(5,i6 (↑i0:Int)),(6,st s0),(7,i6 (↑(ByteArray.size s0):Int)),(8,bo true),(9,i6 (↑i0:Int)),(10,i6 (w6 ((↑i0:Int) + 1))),(11,st s0),(12,i6 (↑i0:Int)),(13,AV.int IntKind.u8 n13),(14,AV.int IntKind.u8 n13),(15,bo true),(16,bo true),(19,bo true),(20,bo true),(21,AV.int IntKind.u8 n13),(22,bo false),(23,bo false),(24,AV.int IntKind.u8 n13),(25,bo true),(26,bo true),(27,bo true),(28,bo true),(29,AV.int IntKind.u8 n13),(30,bo false),(31,bo false),(32,bo false),(35,bo false)] [],around_sound (ans:=[(4,Ans.b true),(9,Ans.v (AV.int IntKind.u8 n13)),(13,Ans.b true),(22,Ans.b false),(28,Ans.b true),(36,Ans.b false)]) (by kernel_rfl) (ai h0 (ai h1 (ai h2 (ai h3 (ai h4 (ai h5 trivial)))))),by unfold f49_F0; rw [e0]; show _=_; kernel_rfl⟩
theorem f49_s0_ttff (s0:ByteArray) (X:Ext) (call:Caller) (lf:Nat) (i0:Nat) (n13:Int)
  (h0:decide ((↑i0:Int) < (↑(ByteArray.size s0):Int))=true)
  (h1:keep [] (indexv Tryz.prog 9 (st s0) (i6 (↑i0:Int)))=some (AV.int IntKind.u8 n13,[]))
  (h2:decide (n13 < 97)=true)
  (h3:decide (n13 < 48)=false)
  (h4:decide (n13 > 57)=false)
  (e0:(↑(i0 + 1):Int)=w6 ((↑i0:Int) + 1)):∃ S1,vexec Tryz.prog X call lf 0 noFg (loopN Tryz.f41 0) (f49_F0 s0 i0)=some (Ex.normal,S1)∧forget f49_D0 S1=(f49_F0 s0 (i0 + 1)) :=
  ⟨stOf 39 [2] [(0,st s0),(3,i6 (w6 ((↑i0:Int) + 1))),(4,AV.int IntKind.u8 n13),(5,i6 (↑i0:Int)),(6,st s0),(7,i6 (↑(ByteArray.size s0):Int)),(8,bo true),(9,i6 (↑i0:Int)),(10,i6 (w6 ((↑i0:Int) + 1))),(11,st s0),(12,i6 (↑i0:Int)),(13,AV.int IntKind.u8 n13),(14,AV.int IntKind.u8 n13),(15,bo true),(16,bo true),(19,bo true),(20,bo true),(21,AV.int IntKind.u8 n13),(22,bo false),(23,bo false),(24,AV.int IntKind.u8 n13),(25,bo false),(26,bo false),(27,bo false),(28,bo false),(31,bo false),(32,bo false),(35,bo false)] [],around_sound (ans:=[(4,Ans.b true),(9,Ans.v (AV.int IntKind.u8 n13)),(13,Ans.b true),(22,Ans.b false),(28,Ans.b false)]) (by kernel_rfl) (ai h0 (ai h1 (ai h2 (ai h3 (ai h4 trivial))))),by unfold f49_F0; rw [e0]; show _=_; kernel_rfl⟩
def f49_S2 (s0:ByteArray) (i0:Nat) (n13:Int):St :=
  stOf 39 [9,10] [(0,st s0),(2,bo false),(3,i6 (↑i0:Int)),(4,AV.int IntKind.u8 n13),(5,i6 (↑i0:Int)),(6,st s0),(7,i6 (↑(ByteArray.size s0):Int)),(8,bo true),(11,st s0),(12,i6 (↑i0:Int)),(13,AV.int IntKind.u8 n13),(14,AV.int IntKind.u8 n13),(15,bo false),(16,bo false),(17,AV.int IntKind.u8 n13),(18,bo true),(19,bo true),(20,bo true),(21,AV.int IntKind.u8 n13),(22,bo true),(23,bo true),(26,bo true),(27,bo true),(28,bo true),(29,AV.int IntKind.u8 n13),(30,bo true),(31,bo true),(32,bo true),(33,AV.int IntKind.u8 n13),(34,bo true),(35,bo true)] []
theorem f49_r0_tftttt (s0:ByteArray) (X:Ext) (call:Caller) (lf:Nat) (i0:Nat) (n13:Int)
  (h0:decide ((↑i0:Int) < (↑(ByteArray.size s0):Int))=true)
  (h1:keep [] (indexv Tryz.prog 9 (st s0) (i6 (↑i0:Int)))=some (AV.int IntKind.u8 n13,[]))
  (h2:decide (n13 < 97)=false)
  (h3:decide (n13 > 122)=true)
  (h4:decide (n13 < 48)=true)
  (h5:(n13 != 45)=true)
  (h6:(n13 != 95)=true):vexec Tryz.prog X call lf 0 noFg (loopN Tryz.f41 0) (f49_F0 s0 i0)=some (Ex.ret,(f49_S2 s0 i0 n13)) :=
  around_sound (ans:=[(4,Ans.b true),(9,Ans.v (AV.int IntKind.u8 n13)),(13,Ans.b false),(18,Ans.b true),(24,Ans.b true),(36,Ans.b true),(42,Ans.b true)]) (by kernel_rfl) (ai h0 (ai h1 (ai h2 (ai h3 (ai h4 (ai h5 (ai h6 trivial)))))))
theorem f49_pltftttt (s0:ByteArray) (X:Ext) (call:Caller) (lf:Nat) (i0:Nat) (n13:Int)
  (h0:vexec Tryz.prog X call lf 0 noFg (Code.loop (loopN Tryz.f41 0)) (stOf 39 [] [(0,st s0),(2,bo false),(3,i6 0)] [])=some (Ex.ret,(f49_S2 s0 i0 n13))):vbody Tryz.prog X call lf noFg Tryz.f41 (codeOf Tryz.f41) [st s0] [] 0=some (bo false,[]) :=
  along_sound (ans:=[(4,Ans.l Ex.ret (f49_S2 s0 i0 n13))]) (by kernel_rfl) (ai h0 trivial)
theorem f49_s0_tftttf (s0:ByteArray) (X:Ext) (call:Caller) (lf:Nat) (i0:Nat) (n13:Int)
  (h0:decide ((↑i0:Int) < (↑(ByteArray.size s0):Int))=true)
  (h1:keep [] (indexv Tryz.prog 9 (st s0) (i6 (↑i0:Int)))=some (AV.int IntKind.u8 n13,[]))
  (h2:decide (n13 < 97)=false)
  (h3:decide (n13 > 122)=true)
  (h4:decide (n13 < 48)=true)
  (h5:(n13 != 45)=true)
  (h6:(n13 != 95)=false)
  (e0:(↑(i0 + 1):Int)=w6 ((↑i0:Int) + 1)):∃ S1,vexec Tryz.prog X call lf 0 noFg (loopN Tryz.f41 0) (f49_F0 s0 i0)=some (Ex.normal,S1)∧forget f49_D0 S1=(f49_F0 s0 (i0 + 1)) :=
  ⟨stOf 39 [2] [(0,st s0),(3,i6 (w6 ((↑i0:Int) + 1))),(4,AV.int IntKind.u8 n13),(5,i6 (↑i0:Int)),(6,st s0),(7,i6 (↑(ByteArray.size s0):Int)),(8,bo true),(9,i6 (↑i0:Int)),(10,i6 (w6 ((↑i0:Int) + 1))),(11,st s0),(12,i6 (↑i0:Int)),(13,AV.int IntKind.u8 n13),(14,AV.int IntKind.u8 n13),(15,bo false),(16,bo false),(17,AV.int IntKind.u8 n13),(18,bo true),(19,bo true),(20,bo true),(21,AV.int IntKind.u8 n13),(22,bo true),(23,bo true),(26,bo true),(27,bo true),(28,bo true),(29,AV.int IntKind.u8 n13),(30,bo true),(31,bo true),(32,bo true),(33,AV.int IntKind.u8 n13),(34,bo false),(35,bo false)] [],around_sound (ans:=[(4,Ans.b true),(9,Ans.v (AV.int IntKind.u8 n13)),(13,Ans.b false),(18,Ans.b true),(24,Ans.b true),(36,Ans.b true),(42,Ans.b false)]) (by kernel_rfl) (ai h0 (ai h1 (ai h2 (ai h3 (ai h4 (ai h5 (ai h6 trivial))))))),by unfold f49_F0; rw [e0]; show _=_; kernel_rfl⟩
theorem f49_s0_tfttf (s0:ByteArray) (X:Ext) (call:Caller) (lf:Nat) (i0:Nat) (n13:Int)
  (h0:decide ((↑i0:Int) < (↑(ByteArray.size s0):Int))=true)
  (h1:keep [] (indexv Tryz.prog 9 (st s0) (i6 (↑i0:Int)))=some (AV.int IntKind.u8 n13,[]))
  (h2:decide (n13 < 97)=false)
  (h3:decide (n13 > 122)=true)
  (h4:decide (n13 < 48)=true)
  (h5:(n13 != 45)=false)
  (e0:(↑(i0 + 1):Int)=w6 ((↑i0:Int) + 1)):∃ S1,vexec Tryz.prog X call lf 0 noFg (loopN Tryz.f41 0) (f49_F0 s0 i0)=some (Ex.normal,S1)∧forget f49_D0 S1=(f49_F0 s0 (i0 + 1)) :=
  ⟨stOf 39 [2] [(0,st s0),(3,i6 (w6 ((↑i0:Int) + 1))),(4,AV.int IntKind.u8 n13),(5,i6 (↑i0:Int)),(6,st s0),(7,i6 (↑(ByteArray.size s0):Int)),(8,bo true),(9,i6 (↑i0:Int)),(10,i6 (w6 ((↑i0:Int) + 1))),(11,st s0),(12,i6 (↑i0:Int)),(13,AV.int IntKind.u8 n13),(14,AV.int IntKind.u8 n13),(15,bo false),(16,bo false),(17,AV.int IntKind.u8 n13),(18,bo true),(19,bo true),(20,bo true),(21,AV.int IntKind.u8 n13),(22,bo true),(23,bo true),(26,bo true),(27,bo true),(28,bo true),(29,AV.int IntKind.u8 n13),(30,bo false),(31,bo false),(32,bo false),(35,bo false)] [],around_sound (ans:=[(4,Ans.b true),(9,Ans.v (AV.int IntKind.u8 n13)),(13,Ans.b false),(18,Ans.b true),(24,Ans.b true),(36,Ans.b false)]) (by kernel_rfl) (ai h0 (ai h1 (ai h2 (ai h3 (ai h4 (ai h5 trivial)))))),by unfold f49_F0; rw [e0]; show _=_; kernel_rfl⟩
def f49_S3 (s0:ByteArray) (i0:Nat) (n13:Int):St :=
  stOf 39 [9,10] [(0,st s0),(2,bo false),(3,i6 (↑i0:Int)),(4,AV.int IntKind.u8 n13),(5,i6 (↑i0:Int)),(6,st s0),(7,i6 (↑(ByteArray.size s0):Int)),(8,bo true),(11,st s0),(12,i6 (↑i0:Int)),(13,AV.int IntKind.u8 n13),(14,AV.int IntKind.u8 n13),(15,bo false),(16,bo false),(17,AV.int IntKind.u8 n13),(18,bo true),(19,bo true),(20,bo true),(21,AV.int IntKind.u8 n13),(22,bo false),(23,bo false),(24,AV.int IntKind.u8 n13),(25,bo true),(26,bo true),(27,bo true),(28,bo true),(29,AV.int IntKind.u8 n13),(30,bo true),(31,bo true),(32,bo true),(33,AV.int IntKind.u8 n13),(34,bo true),(35,bo true)] []
theorem f49_r0_tftfttt (s0:ByteArray) (X:Ext) (call:Caller) (lf:Nat) (i0:Nat) (n13:Int)
  (h0:decide ((↑i0:Int) < (↑(ByteArray.size s0):Int))=true)
  (h1:keep [] (indexv Tryz.prog 9 (st s0) (i6 (↑i0:Int)))=some (AV.int IntKind.u8 n13,[]))
  (h2:decide (n13 < 97)=false)
  (h3:decide (n13 > 122)=true)
  (h4:decide (n13 < 48)=false)
  (h5:decide (n13 > 57)=true)
  (h6:(n13 != 45)=true)
  (h7:(n13 != 95)=true):vexec Tryz.prog X call lf 0 noFg (loopN Tryz.f41 0) (f49_F0 s0 i0)=some (Ex.ret,(f49_S3 s0 i0 n13)) :=
  around_sound (ans:=[(4,Ans.b true),(9,Ans.v (AV.int IntKind.u8 n13)),(13,Ans.b false),(18,Ans.b true),(24,Ans.b false),(30,Ans.b true),(38,Ans.b true),(44,Ans.b true)]) (by kernel_rfl) (ai h0 (ai h1 (ai h2 (ai h3 (ai h4 (ai h5 (ai h6 (ai h7 trivial))))))))
theorem f49_pltftfttt (s0:ByteArray) (X:Ext) (call:Caller) (lf:Nat) (i0:Nat) (n13:Int)
  (h0:vexec Tryz.prog X call lf 0 noFg (Code.loop (loopN Tryz.f41 0)) (stOf 39 [] [(0,st s0),(2,bo false),(3,i6 0)] [])=some (Ex.ret,(f49_S3 s0 i0 n13))):vbody Tryz.prog X call lf noFg Tryz.f41 (codeOf Tryz.f41) [st s0] [] 0=some (bo false,[]) :=
  along_sound (ans:=[(4,Ans.l Ex.ret (f49_S3 s0 i0 n13))]) (by kernel_rfl) (ai h0 trivial)
theorem f49_s0_tftfttf (s0:ByteArray) (X:Ext) (call:Caller) (lf:Nat) (i0:Nat) (n13:Int)
  (h0:decide ((↑i0:Int) < (↑(ByteArray.size s0):Int))=true)
  (h1:keep [] (indexv Tryz.prog 9 (st s0) (i6 (↑i0:Int)))=some (AV.int IntKind.u8 n13,[]))
  (h2:decide (n13 < 97)=false)
  (h3:decide (n13 > 122)=true)
  (h4:decide (n13 < 48)=false)
  (h5:decide (n13 > 57)=true)
  (h6:(n13 != 45)=true)
  (h7:(n13 != 95)=false)
  (e0:(↑(i0 + 1):Int)=w6 ((↑i0:Int) + 1)):∃ S1,vexec Tryz.prog X call lf 0 noFg (loopN Tryz.f41 0) (f49_F0 s0 i0)=some (Ex.normal,S1)∧forget f49_D0 S1=(f49_F0 s0 (i0 + 1)) :=
  ⟨stOf 39 [2] [(0,st s0),(3,i6 (w6 ((↑i0:Int) + 1))),(4,AV.int IntKind.u8 n13),(5,i6 (↑i0:Int)),(6,st s0),(7,i6 (↑(ByteArray.size s0):Int)),(8,bo true),(9,i6 (↑i0:Int)),(10,i6 (w6 ((↑i0:Int) + 1))),(11,st s0),(12,i6 (↑i0:Int)),(13,AV.int IntKind.u8 n13),(14,AV.int IntKind.u8 n13),(15,bo false),(16,bo false),(17,AV.int IntKind.u8 n13),(18,bo true),(19,bo true),(20,bo true),(21,AV.int IntKind.u8 n13),(22,bo false),(23,bo false),(24,AV.int IntKind.u8 n13),(25,bo true),(26,bo true),(27,bo true),(28,bo true),(29,AV.int IntKind.u8 n13),(30,bo true),(31,bo true),(32,bo true),(33,AV.int IntKind.u8 n13),(34,bo false),(35,bo false)] [],around_sound (ans:=[(4,Ans.b true),(9,Ans.v (AV.int IntKind.u8 n13)),(13,Ans.b false),(18,Ans.b true),(24,Ans.b false),(30,Ans.b true),(38,Ans.b true),(44,Ans.b false)]) (by kernel_rfl) (ai h0 (ai h1 (ai h2 (ai h3 (ai h4 (ai h5 (ai h6 (ai h7 trivial)))))))),by unfold f49_F0; rw [e0]; show _=_; kernel_rfl⟩
theorem f49_s0_tftftf (s0:ByteArray) (X:Ext) (call:Caller) (lf:Nat) (i0:Nat) (n13:Int)
  (h0:decide ((↑i0:Int) < (↑(ByteArray.size s0):Int))=true)
  (h1:keep [] (indexv Tryz.prog 9 (st s0) (i6 (↑i0:Int)))=some (AV.int IntKind.u8 n13,[]))
  (h2:decide (n13 < 97)=false)
  (h3:decide (n13 > 122)=true)
  (h4:decide (n13 < 48)=false)
  (h5:decide (n13 > 57)=true)
  (h6:(n13 != 45)=false)
  (e0:(↑(i0 + 1):Int)=w6 ((↑i0:Int) + 1)):∃ S1,vexec Tryz.prog X call lf 0 noFg (loopN Tryz.f41 0) (f49_F0 s0 i0)=some (Ex.normal,S1)∧forget f49_D0 S1=(f49_F0 s0 (i0 + 1)) :=
  ⟨stOf 39 [2] [(0,st s0),(3,i6 (w6 ((↑i0:Int) + 1))),(4,AV.int IntKind.u8 n13),(5,i6 (↑i0:Int)),(6,st s0),(7,i6 (↑(ByteArray.size s0):Int)),(8,bo true),(9,i6 (↑i0:Int)),(10,i6 (w6 ((↑i0:Int) + 1))),(11,st s0),(12,i6 (↑i0:Int)),(13,AV.int IntKind.u8 n13),(14,AV.int IntKind.u8 n13),(15,bo false),(16,bo false),(17,AV.int IntKind.u8 n13),(18,bo true),(19,bo true),(20,bo true),(21,AV.int IntKind.u8 n13),(22,bo false),(23,bo false),(24,AV.int IntKind.u8 n13),(25,bo true),(26,bo true),(27,bo true),(28,bo true),(29,AV.int IntKind.u8 n13),(30,bo false),(31,bo false),(32,bo false),(35,bo false)] [],around_sound (ans:=[(4,Ans.b true),(9,Ans.v (AV.int IntKind.u8 n13)),(13,Ans.b false),(18,Ans.b true),(24,Ans.b false),(30,Ans.b true),(38,Ans.b false)]) (by kernel_rfl) (ai h0 (ai h1 (ai h2 (ai h3 (ai h4 (ai h5 (ai h6 trivial))))))),by unfold f49_F0; rw [e0]; show _=_; kernel_rfl⟩
theorem f49_s0_tftff (s0:ByteArray) (X:Ext) (call:Caller) (lf:Nat) (i0:Nat) (n13:Int)
  (h0:decide ((↑i0:Int) < (↑(ByteArray.size s0):Int))=true)
  (h1:keep [] (indexv Tryz.prog 9 (st s0) (i6 (↑i0:Int)))=some (AV.int IntKind.u8 n13,[]))
  (h2:decide (n13 < 97)=false)
  (h3:decide (n13 > 122)=true)
  (h4:decide (n13 < 48)=false)
  (h5:decide (n13 > 57)=false)
  (e0:(↑(i0 + 1):Int)=w6 ((↑i0:Int) + 1)):∃ S1,vexec Tryz.prog X call lf 0 noFg (loopN Tryz.f41 0) (f49_F0 s0 i0)=some (Ex.normal,S1)∧forget f49_D0 S1=(f49_F0 s0 (i0 + 1)) :=
  ⟨stOf 39 [2] [(0,st s0),(3,i6 (w6 ((↑i0:Int) + 1))),(4,AV.int IntKind.u8 n13),(5,i6 (↑i0:Int)),(6,st s0),(7,i6 (↑(ByteArray.size s0):Int)),(8,bo true),(9,i6 (↑i0:Int)),(10,i6 (w6 ((↑i0:Int) + 1))),(11,st s0),(12,i6 (↑i0:Int)),(13,AV.int IntKind.u8 n13),(14,AV.int IntKind.u8 n13),(15,bo false),(16,bo false),(17,AV.int IntKind.u8 n13),(18,bo true),(19,bo true),(20,bo true),(21,AV.int IntKind.u8 n13),(22,bo false),(23,bo false),(24,AV.int IntKind.u8 n13),(25,bo false),(26,bo false),(27,bo false),(28,bo false),(31,bo false),(32,bo false),(35,bo false)] [],around_sound (ans:=[(4,Ans.b true),(9,Ans.v (AV.int IntKind.u8 n13)),(13,Ans.b false),(18,Ans.b true),(24,Ans.b false),(30,Ans.b false)]) (by kernel_rfl) (ai h0 (ai h1 (ai h2 (ai h3 (ai h4 (ai h5 trivial)))))),by unfold f49_F0; rw [e0]; show _=_; kernel_rfl⟩
theorem f49_s0_tff (s0:ByteArray) (X:Ext) (call:Caller) (lf:Nat) (i0:Nat) (n13:Int)
  (h0:decide ((↑i0:Int) < (↑(ByteArray.size s0):Int))=true)
  (h1:keep [] (indexv Tryz.prog 9 (st s0) (i6 (↑i0:Int)))=some (AV.int IntKind.u8 n13,[]))
  (h2:decide (n13 < 97)=false)
  (h3:decide (n13 > 122)=false)
  (e0:(↑(i0 + 1):Int)=w6 ((↑i0:Int) + 1)):∃ S1,vexec Tryz.prog X call lf 0 noFg (loopN Tryz.f41 0) (f49_F0 s0 i0)=some (Ex.normal,S1)∧forget f49_D0 S1=(f49_F0 s0 (i0 + 1)) :=
  ⟨stOf 39 [2] [(0,st s0),(3,i6 (w6 ((↑i0:Int) + 1))),(4,AV.int IntKind.u8 n13),(5,i6 (↑i0:Int)),(6,st s0),(7,i6 (↑(ByteArray.size s0):Int)),(8,bo true),(9,i6 (↑i0:Int)),(10,i6 (w6 ((↑i0:Int) + 1))),(11,st s0),(12,i6 (↑i0:Int)),(13,AV.int IntKind.u8 n13),(14,AV.int IntKind.u8 n13),(15,bo false),(16,bo false),(17,AV.int IntKind.u8 n13),(18,bo false),(19,bo false),(20,bo false),(27,bo false),(28,bo false),(31,bo false),(32,bo false),(35,bo false)] [],around_sound (ans:=[(4,Ans.b true),(9,Ans.v (AV.int IntKind.u8 n13)),(13,Ans.b false),(18,Ans.b false)]) (by kernel_rfl) (ai h0 (ai h1 (ai h2 (ai h3 trivial)))),by unfold f49_F0; rw [e0]; show _=_; kernel_rfl⟩
def f49_S4 (s0:ByteArray) (i0:Nat):St :=
  stOf 39 [2,4,9,10,11,12,13,14,15,16,17,18,19,20,21,22,23,24,25,26,27,28,29,30,31,32,33,34,35] [(0,st s0),(3,i6 (↑i0:Int)),(5,i6 (↑i0:Int)),(6,st s0),(7,i6 (↑(ByteArray.size s0):Int)),(8,bo false)] []
theorem f49_r0_f (s0:ByteArray) (X:Ext) (call:Caller) (lf:Nat) (i0:Nat)
  (h0:decide ((↑i0:Int) < (↑(ByteArray.size s0):Int))=false):vexec Tryz.prog X call lf 0 noFg (loopN Tryz.f41 0) (f49_F0 s0 i0)=some (Ex.exit 0,(f49_S4 s0 i0)) :=
  around_sound (ans:=[(4,Ans.b false)]) (by kernel_rfl) (ai h0 trivial)
theorem f49_plft (s0:ByteArray) (X:Ext) (call:Caller) (lf:Nat) (i0:Nat)
  (h0:vexec Tryz.prog X call lf 0 noFg (Code.loop (loopN Tryz.f41 0)) (stOf 39 [] [(0,st s0),(2,bo false),(3,i6 0)] [])=some (Ex.exit 0,(f49_S4 s0 i0)))
  (h1:decide ((↑(ByteArray.size s0):Int) > 0)=true):vbody Tryz.prog X call lf noFg Tryz.f41 (codeOf Tryz.f41) [st s0] [] 0=some (bo true,[]) :=
  along_sound (ans:=[(4,Ans.l (Ex.exit 0) (f49_S4 s0 i0)),(8,Ans.b true)]) (by kernel_rfl) (ai h0 (ai h1 trivial))
theorem f49_plff (s0:ByteArray) (X:Ext) (call:Caller) (lf:Nat) (i0:Nat)
  (h0:vexec Tryz.prog X call lf 0 noFg (Code.loop (loopN Tryz.f41 0)) (stOf 39 [] [(0,st s0),(2,bo false),(3,i6 0)] [])=some (Ex.exit 0,(f49_S4 s0 i0)))
  (h1:decide ((↑(ByteArray.size s0):Int) > 0)=false):vbody Tryz.prog X call lf noFg Tryz.f41 (codeOf Tryz.f41) [st s0] [] 0=some (bo false,[]) :=
  along_sound (ans:=[(4,Ans.l (Ex.exit 0) (f49_S4 s0 i0)),(8,Ans.b false)]) (by kernel_rfl) (ai h0 (ai h1 trivial))
def f49_o0 (s0:ByteArray) (i0:Nat) (n13:Int):Nat :=
  (match decide ((↑i0:Int) < (↑(ByteArray.size s0):Int)) with
  | true => (match decide (n13 < 97) with
    | true => (match decide (n13 < 48) with
      | true => (match (n13 != 45) with
        | true => (match (n13 != 95) with
          | true=>1
          | false=>0)
        | false=>0)
      | false => (match decide (n13 > 57) with
        | true => (match (n13 != 45) with
          | true => (match (n13 != 95) with
            | true=>2
            | false=>0)
          | false=>0)
        | false=>0))
    | false => (match decide (n13 > 122) with
      | true => (match decide (n13 < 48) with
        | true => (match (n13 != 45) with
          | true => (match (n13 != 95) with
            | true=>3
            | false=>0)
          | false=>0)
        | false => (match decide (n13 > 57) with
          | true => (match (n13 != 45) with
            | true => (match (n13 != 95) with
              | true=>4
              | false=>0)
            | false=>0)
          | false=>0))
      | false=>0))
  | false=>5)
theorem f49_B0 (s0:ByteArray) (X:Ext) (call:Caller) (lf:Nat) (i0:Nat) (n13:Int)
  (g0:decide ((↑i0:Int) < (↑(ByteArray.size s0):Int))=true→keep [] (indexv Tryz.prog 9 (st s0) (i6 (↑i0:Int)))=some (AV.int IntKind.u8 n13,[]))
  (e0 : decide ((↑i0 : Int) < (↑(ByteArray.size s0) : Int)) = true → (↑(i0 + 1) : Int) = w6 ((↑i0 : Int) + 1)) :
    (f49_o0 s0 i0 n13=0→∃ S1,vexec Tryz.prog X call lf 0 noFg (loopN Tryz.f41 0) (f49_F0 s0 i0)=some (Ex.normal,S1)∧forget f49_D0 S1=(f49_F0 s0 (i0 + 1)))∧(f49_o0 s0 i0 n13=1→vexec Tryz.prog X call lf 0 noFg (loopN Tryz.f41 0) (f49_F0 s0 i0)=some (Ex.ret,(f49_S0 s0 i0 n13)))∧(f49_o0 s0 i0 n13=2→vexec Tryz.prog X call lf 0 noFg (loopN Tryz.f41 0) (f49_F0 s0 i0)=some (Ex.ret,(f49_S1 s0 i0 n13)))∧(f49_o0 s0 i0 n13=3→vexec Tryz.prog X call lf 0 noFg (loopN Tryz.f41 0) (f49_F0 s0 i0)=some (Ex.ret,(f49_S2 s0 i0 n13)))∧(f49_o0 s0 i0 n13=4→vexec Tryz.prog X call lf 0 noFg (loopN Tryz.f41 0) (f49_F0 s0 i0)=some (Ex.ret,(f49_S3 s0 i0 n13)))∧(f49_o0 s0 i0 n13=5→vexec Tryz.prog X call lf 0 noFg (loopN Tryz.f41 0) (f49_F0 s0 i0)=some (Ex.exit 0,(f49_S4 s0 i0))):=by
  unfold f49_o0
  cases c0:decide ((↑i0:Int) < (↑(ByteArray.size s0):Int)) with
  | true =>
    cases c1:decide (n13 < 97) with
    | true =>
      cases c2:decide (n13 < 48) with
      | true =>
        cases c3:(n13 != 45) with
        | true =>
          cases c4:(n13 != 95) with
          | true =>
            exact ⟨fun h=>nq h,fun _=>f49_r0_ttttt s0 X call lf i0 n13 c0 (g0 c0) c1 c2 c3 c4,fun h=>nq h,fun h=>nq h,fun h=>nq h,fun h=>nq h⟩
          | false =>
            exact ⟨fun _=>f49_s0_ttttf s0 X call lf i0 n13 c0 (g0 c0) c1 c2 c3 c4 (e0 c0),fun h=>nq h,fun h=>nq h,fun h=>nq h,fun h=>nq h,fun h=>nq h⟩
        | false =>
          exact ⟨fun _=>f49_s0_tttf s0 X call lf i0 n13 c0 (g0 c0) c1 c2 c3 (e0 c0),fun h=>nq h,fun h=>nq h,fun h=>nq h,fun h=>nq h,fun h=>nq h⟩
      | false =>
        cases c3:decide (n13 > 57) with
        | true =>
          cases c4:(n13 != 45) with
          | true =>
            cases c5:(n13 != 95) with
            | true =>
              exact ⟨fun h=>nq h,fun h=>nq h,fun _=>f49_r0_ttfttt s0 X call lf i0 n13 c0 (g0 c0) c1 c2 c3 c4 c5,fun h=>nq h,fun h=>nq h,fun h=>nq h⟩
            | false =>
              exact ⟨fun _=>f49_s0_ttfttf s0 X call lf i0 n13 c0 (g0 c0) c1 c2 c3 c4 c5 (e0 c0),fun h=>nq h,fun h=>nq h,fun h=>nq h,fun h=>nq h,fun h=>nq h⟩
          | false =>
            exact ⟨fun _=>f49_s0_ttftf s0 X call lf i0 n13 c0 (g0 c0) c1 c2 c3 c4 (e0 c0),fun h=>nq h,fun h=>nq h,fun h=>nq h,fun h=>nq h,fun h=>nq h⟩
        | false =>
          exact ⟨fun _=>f49_s0_ttff s0 X call lf i0 n13 c0 (g0 c0) c1 c2 c3 (e0 c0),fun h=>nq h,fun h=>nq h,fun h=>nq h,fun h=>nq h,fun h=>nq h⟩
    | false =>
      cases c2:decide (n13 > 122) with
      | true =>
        cases c3:decide (n13 < 48) with
        | true =>
          cases c4:(n13 != 45) with
          | true =>
            cases c5:(n13 != 95) with
            | true =>
              exact ⟨fun h=>nq h,fun h=>nq h,fun h=>nq h,fun _=>f49_r0_tftttt s0 X call lf i0 n13 c0 (g0 c0) c1 c2 c3 c4 c5,fun h=>nq h,fun h=>nq h⟩
            | false =>
              exact ⟨fun _=>f49_s0_tftttf s0 X call lf i0 n13 c0 (g0 c0) c1 c2 c3 c4 c5 (e0 c0),fun h=>nq h,fun h=>nq h,fun h=>nq h,fun h=>nq h,fun h=>nq h⟩
          | false =>
            exact ⟨fun _=>f49_s0_tfttf s0 X call lf i0 n13 c0 (g0 c0) c1 c2 c3 c4 (e0 c0),fun h=>nq h,fun h=>nq h,fun h=>nq h,fun h=>nq h,fun h=>nq h⟩
        | false =>
          cases c4:decide (n13 > 57) with
          | true =>
            cases c5:(n13 != 45) with
            | true =>
              cases c6:(n13 != 95) with
              | true =>
                exact ⟨fun h=>nq h,fun h=>nq h,fun h=>nq h,fun h=>nq h,fun _=>f49_r0_tftfttt s0 X call lf i0 n13 c0 (g0 c0) c1 c2 c3 c4 c5 c6,fun h=>nq h⟩
              | false =>
                exact ⟨fun _=>f49_s0_tftfttf s0 X call lf i0 n13 c0 (g0 c0) c1 c2 c3 c4 c5 c6 (e0 c0),fun h=>nq h,fun h=>nq h,fun h=>nq h,fun h=>nq h,fun h=>nq h⟩
            | false =>
              exact ⟨fun _=>f49_s0_tftftf s0 X call lf i0 n13 c0 (g0 c0) c1 c2 c3 c4 c5 (e0 c0),fun h=>nq h,fun h=>nq h,fun h=>nq h,fun h=>nq h,fun h=>nq h⟩
          | false =>
            exact ⟨fun _=>f49_s0_tftff s0 X call lf i0 n13 c0 (g0 c0) c1 c2 c3 c4 (e0 c0),fun h=>nq h,fun h=>nq h,fun h=>nq h,fun h=>nq h,fun h=>nq h⟩
      | false =>
        exact ⟨fun _=>f49_s0_tff s0 X call lf i0 n13 c0 (g0 c0) c1 c2 (e0 c0),fun h=>nq h,fun h=>nq h,fun h=>nq h,fun h=>nq h,fun h=>nq h⟩
  | false =>
    exact ⟨fun h=>nq h,fun h=>nq h,fun h=>nq h,fun h=>nq h,fun h=>nq h,fun _=>f49_r0_f s0 X call lf i0 c0⟩
theorem f49_X0 (s0:ByteArray) (X:Ext) (call:Caller) (lf:Nat) (i0:Nat) (n13:Int)
  (g0 : decide ((↑i0 : Int) < (↑(ByteArray.size s0) : Int)) = true → keep [] (indexv Tryz.prog 9 (st s0) (i6 (↑i0 : Int))) = some (AV.int IntKind.u8 n13, [])) :
    (f49_o0 s0 i0 n13=1→vexec Tryz.prog X call lf 0 noFg (loopN Tryz.f41 0) (f49_F0 s0 i0)=some (Ex.ret,(f49_S0 s0 i0 n13)))∧(f49_o0 s0 i0 n13=2→vexec Tryz.prog X call lf 0 noFg (loopN Tryz.f41 0) (f49_F0 s0 i0)=some (Ex.ret,(f49_S1 s0 i0 n13)))∧(f49_o0 s0 i0 n13=3→vexec Tryz.prog X call lf 0 noFg (loopN Tryz.f41 0) (f49_F0 s0 i0)=some (Ex.ret,(f49_S2 s0 i0 n13)))∧(f49_o0 s0 i0 n13=4→vexec Tryz.prog X call lf 0 noFg (loopN Tryz.f41 0) (f49_F0 s0 i0)=some (Ex.ret,(f49_S3 s0 i0 n13)))∧(f49_o0 s0 i0 n13=5→vexec Tryz.prog X call lf 0 noFg (loopN Tryz.f41 0) (f49_F0 s0 i0)=some (Ex.exit 0,(f49_S4 s0 i0))):=by
  unfold f49_o0
  cases c0:decide ((↑i0:Int) < (↑(ByteArray.size s0):Int)) with
  | true =>
    cases c1:decide (n13 < 97) with
    | true =>
      cases c2:decide (n13 < 48) with
      | true =>
        cases c3:(n13 != 45) with
        | true =>
          cases c4:(n13 != 95) with
          | true =>
            exact ⟨fun _=>f49_r0_ttttt s0 X call lf i0 n13 c0 (g0 c0) c1 c2 c3 c4,fun h=>nq h,fun h=>nq h,fun h=>nq h,fun h=>nq h⟩
          | false =>
            exact ⟨fun h=>nq h,fun h=>nq h,fun h=>nq h,fun h=>nq h,fun h=>nq h⟩
        | false =>
          exact ⟨fun h=>nq h,fun h=>nq h,fun h=>nq h,fun h=>nq h,fun h=>nq h⟩
      | false =>
        cases c3:decide (n13 > 57) with
        | true =>
          cases c4:(n13 != 45) with
          | true =>
            cases c5:(n13 != 95) with
            | true =>
              exact ⟨fun h=>nq h,fun _=>f49_r0_ttfttt s0 X call lf i0 n13 c0 (g0 c0) c1 c2 c3 c4 c5,fun h=>nq h,fun h=>nq h,fun h=>nq h⟩
            | false =>
              exact ⟨fun h=>nq h,fun h=>nq h,fun h=>nq h,fun h=>nq h,fun h=>nq h⟩
          | false =>
            exact ⟨fun h=>nq h,fun h=>nq h,fun h=>nq h,fun h=>nq h,fun h=>nq h⟩
        | false =>
          exact ⟨fun h=>nq h,fun h=>nq h,fun h=>nq h,fun h=>nq h,fun h=>nq h⟩
    | false =>
      cases c2:decide (n13 > 122) with
      | true =>
        cases c3:decide (n13 < 48) with
        | true =>
          cases c4:(n13 != 45) with
          | true =>
            cases c5:(n13 != 95) with
            | true =>
              exact ⟨fun h=>nq h,fun h=>nq h,fun _=>f49_r0_tftttt s0 X call lf i0 n13 c0 (g0 c0) c1 c2 c3 c4 c5,fun h=>nq h,fun h=>nq h⟩
            | false =>
              exact ⟨fun h=>nq h,fun h=>nq h,fun h=>nq h,fun h=>nq h,fun h=>nq h⟩
          | false =>
            exact ⟨fun h=>nq h,fun h=>nq h,fun h=>nq h,fun h=>nq h,fun h=>nq h⟩
        | false =>
          cases c4:decide (n13 > 57) with
          | true =>
            cases c5:(n13 != 45) with
            | true =>
              cases c6:(n13 != 95) with
              | true =>
                exact ⟨fun h=>nq h,fun h=>nq h,fun h=>nq h,fun _=>f49_r0_tftfttt s0 X call lf i0 n13 c0 (g0 c0) c1 c2 c3 c4 c5 c6,fun h=>nq h⟩
              | false =>
                exact ⟨fun h=>nq h,fun h=>nq h,fun h=>nq h,fun h=>nq h,fun h=>nq h⟩
            | false =>
              exact ⟨fun h=>nq h,fun h=>nq h,fun h=>nq h,fun h=>nq h,fun h=>nq h⟩
          | false =>
            exact ⟨fun h=>nq h,fun h=>nq h,fun h=>nq h,fun h=>nq h,fun h=>nq h⟩
      | false =>
        exact ⟨fun h=>nq h,fun h=>nq h,fun h=>nq h,fun h=>nq h,fun h=>nq h⟩
  | false =>
    exact ⟨fun h=>nq h,fun h=>nq h,fun h=>nq h,fun h=>nq h,fun _=>f49_r0_f s0 X call lf i0 c0⟩
theorem f49_M (s0:ByteArray) (X:Ext) (call:Caller) (lf:Nat) (n:Nat) (n13:Nat→Int)
  (hn:n < lf)
  (g0:∀ i0,i0 ≤ n→decide ((↑i0:Int) < (↑(ByteArray.size s0):Int))=true→keep [] (indexv Tryz.prog 9 (st s0) (i6 (↑i0:Int)))=some (AV.int IntKind.u8 (n13 i0),[]))
  (e0:∀ i0,i0 < n→decide ((↑i0:Int) < (↑(ByteArray.size s0):Int))=true→(↑(i0 + 1):Int)=w6 ((↑i0:Int) + 1))
  (hz : ∀ j, j < n → f49_o0 s0 j (n13 j) = 0) :
    (f49_o0 s0 n (n13 n)=1→vbody Tryz.prog X call lf noFg Tryz.f41 (codeOf Tryz.f41) [st s0] [] 0=some (bo false,[]))∧(f49_o0 s0 n (n13 n)=2→vbody Tryz.prog X call lf noFg Tryz.f41 (codeOf Tryz.f41) [st s0] [] 0=some (bo false,[]))∧(f49_o0 s0 n (n13 n)=3→vbody Tryz.prog X call lf noFg Tryz.f41 (codeOf Tryz.f41) [st s0] [] 0=some (bo false,[]))∧(f49_o0 s0 n (n13 n)=4→vbody Tryz.prog X call lf noFg Tryz.f41 (codeOf Tryz.f41) [st s0] [] 0=some (bo false,[]))∧(f49_o0 s0 n (n13 n)=5→decide ((↑(ByteArray.size s0):Int) > 0)=true→vbody Tryz.prog X call lf noFg Tryz.f41 (codeOf Tryz.f41) [st s0] [] 0=some (bo true,[]))∧(f49_o0 s0 n (n13 n)=5→decide ((↑(ByteArray.size s0):Int) > 0)=false→vbody Tryz.prog X call lf noFg Tryz.f41 (codeOf Tryz.f41) [st s0] [] 0=some (bo false,[])):=by
  have key:∀ j,j < n→_:=fun j hj=>(f49_B0 s0 X call lf j (n13 j) (g0 j (Nat.le_of_lt hj)) (e0 j hj)).1 (hz j hj)
  have kn:=f49_X0 s0 X call lf n (n13 n) (g0 n (Nat.le_refl n))
  exact ⟨fun hk => f49_plttttt s0 X call lf n (n13 n) (f49_L0 s0 X call lf n _ _ hn key (kn.1 hk) (by simp)),
    fun hk=>f49_plttfttt s0 X call lf n (n13 n) (f49_L0 s0 X call lf n _ _ hn key (kn.2.1 hk) (by simp)),
    fun hk=>f49_pltftttt s0 X call lf n (n13 n) (f49_L0 s0 X call lf n _ _ hn key (kn.2.2.1 hk) (by simp)),
    fun hk=>f49_pltftfttt s0 X call lf n (n13 n) (f49_L0 s0 X call lf n _ _ hn key (kn.2.2.2.1 hk) (by simp)),
    fun hk q0=>f49_plft s0 X call lf n (f49_L0 s0 X call lf n _ _ hn key (kn.2.2.2.2 hk) (by simp)) q0,
    fun hk q0=>f49_plff s0 X call lf n (f49_L0 s0 X call lf n _ _ hn key (kn.2.2.2.2 hk) (by simp)) q0⟩
def f75_F0 (s0:ByteArray) (i0:Nat):St :=
  stOf 34 [2,4,5,6,7,8,9,10,11,12,13,14,15,16,17,18,19,20,21,22,23,24,25,26,27,28,29,30,31] [(0,st s0),(3,i6 (↑i0:Int))] []
abbrev f75_D0:List Nat:=[10,9,2,31,30,29,28,27,26,25,24,23,22,21,20,19,18,17,16,15,14,4,13,12,11,8,7,6,5]
theorem f75_L0 (s0:ByteArray) (X:Ext) (call:Caller) (lf:Nat) (n:Nat) (x:Ex) (S' : St)
  (hn:n < lf)
  (hs:∀ j,j < n→∃ S1,vexec Tryz.prog X call lf 0 noFg (loopN Tryz.f38 0) (f75_F0 s0 j)=some (Ex.normal,S1)∧forget f75_D0 S1=(f75_F0 s0 (j + 1)))
  (he:vexec Tryz.prog X call lf 0 noFg (loopN Tryz.f38 0) (f75_F0 s0 n)=some (x,S'))
  (hx:x ≠ Ex.normal):vexec Tryz.prog X call lf 0 noFg (Go.Code.loop (loopN Tryz.f38 0)) (stOf 34 [] [(0,st s0),(2,bo false),(3,i6 0)] [])=some (x,S') :=
  loop_runK (by kernel_rfl) (fun j=>(f75_F0 s0 j)) n hn (by show forget f75_D0 (stOf 34 [] [(0,st s0),(2,bo false),(3,i6 0)] [])=(f75_F0 s0 0); unfold f75_F0; show _=_; kernel_rfl) hs he hx
def f75_S0 (s0:ByteArray) (i0:Nat) (n13:Int):St :=
  stOf 34 [9,10] [(0,st s0),(2,bo false),(3,i6 (↑i0:Int)),(4,AV.int IntKind.u8 n13),(5,i6 (↑i0:Int)),(6,st s0),(7,i6 (↑(ByteArray.size s0):Int)),(8,bo true),(11,st s0),(12,i6 (↑i0:Int)),(13,AV.int IntKind.u8 n13),(14,AV.int IntKind.u8 n13),(15,bo true),(16,bo true),(19,bo true),(20,bo true),(21,AV.int IntKind.u8 n13),(22,bo true),(23,bo true),(26,bo true),(27,bo true),(28,bo true),(29,AV.int IntKind.u8 n13),(30,bo true),(31,bo true)] []
theorem f75_r0_tttt (s0:ByteArray) (X:Ext) (call:Caller) (lf:Nat) (i0:Nat) (n13:Int)
  (h0:decide ((↑i0:Int) < (↑(ByteArray.size s0):Int))=true)
  (h1:keep [] (indexv Tryz.prog 9 (st s0) (i6 (↑i0:Int)))=some (AV.int IntKind.u8 n13,[]))
  (h2:decide (n13 < 97)=true)
  (h3:decide (n13 < 48)=true)
  (h4:(n13 != 45)=true):vexec Tryz.prog X call lf 0 noFg (loopN Tryz.f38 0) (f75_F0 s0 i0)=some (Ex.ret,(f75_S0 s0 i0 n13)) :=
  around_sound (ans:=[(4,Ans.b true),(9,Ans.v (AV.int IntKind.u8 n13)),(13,Ans.b true),(22,Ans.b true),(34,Ans.b true)]) (by kernel_rfl) (ai h0 (ai h1 (ai h2 (ai h3 (ai h4 trivial)))))
theorem f75_pltttt (s0:ByteArray) (X:Ext) (call:Caller) (lf:Nat) (i0:Nat) (n13:Int)
  (h0:vexec Tryz.prog X call lf 0 noFg (Code.loop (loopN Tryz.f38 0)) (stOf 34 [] [(0,st s0),(2,bo false),(3,i6 0)] [])=some (Ex.ret,(f75_S0 s0 i0 n13))):vbody Tryz.prog X call lf noFg Tryz.f38 (codeOf Tryz.f38) [st s0] [] 0=some (bo false,[]) :=
  along_sound (ans:=[(4,Ans.l Ex.ret (f75_S0 s0 i0 n13))]) (by kernel_rfl) (ai h0 trivial)
theorem f75_s0_tttf (s0:ByteArray) (X:Ext) (call:Caller) (lf:Nat) (i0:Nat) (n13:Int)
  (h0:decide ((↑i0:Int) < (↑(ByteArray.size s0):Int))=true)
  (h1:keep [] (indexv Tryz.prog 9 (st s0) (i6 (↑i0:Int)))=some (AV.int IntKind.u8 n13,[]))
  (h2:decide (n13 < 97)=true)
  (h3:decide (n13 < 48)=true)
  (h4:(n13 != 45)=false)
  (e0:(↑(i0 + 1):Int)=w6 ((↑i0:Int) + 1)):∃ S1,vexec Tryz.prog X call lf 0 noFg (loopN Tryz.f38 0) (f75_F0 s0 i0)=some (Ex.normal,S1)∧forget f75_D0 S1=(f75_F0 s0 (i0 + 1)) :=
  ⟨stOf 34 [2] [(0,st s0),(3,i6 (w6 ((↑i0:Int) + 1))),(4,AV.int IntKind.u8 n13),(5,i6 (↑i0:Int)),(6,st s0),(7,i6 (↑(ByteArray.size s0):Int)),(8,bo true),(9,i6 (↑i0:Int)),(10,i6 (w6 ((↑i0:Int) + 1))),(11,st s0),(12,i6 (↑i0:Int)),(13,AV.int IntKind.u8 n13),(14,AV.int IntKind.u8 n13),(15,bo true),(16,bo true),(19,bo true),(20,bo true),(21,AV.int IntKind.u8 n13),(22,bo true),(23,bo true),(26,bo true),(27,bo true),(28,bo true),(29,AV.int IntKind.u8 n13),(30,bo false),(31,bo false)] [],around_sound (ans:=[(4,Ans.b true),(9,Ans.v (AV.int IntKind.u8 n13)),(13,Ans.b true),(22,Ans.b true),(34,Ans.b false)]) (by kernel_rfl) (ai h0 (ai h1 (ai h2 (ai h3 (ai h4 trivial))))),by unfold f75_F0; rw [e0]; show _=_; kernel_rfl⟩
def f75_S1 (s0:ByteArray) (i0:Nat) (n13:Int):St :=
  stOf 34 [9,10] [(0,st s0),(2,bo false),(3,i6 (↑i0:Int)),(4,AV.int IntKind.u8 n13),(5,i6 (↑i0:Int)),(6,st s0),(7,i6 (↑(ByteArray.size s0):Int)),(8,bo true),(11,st s0),(12,i6 (↑i0:Int)),(13,AV.int IntKind.u8 n13),(14,AV.int IntKind.u8 n13),(15,bo true),(16,bo true),(19,bo true),(20,bo true),(21,AV.int IntKind.u8 n13),(22,bo false),(23,bo false),(24,AV.int IntKind.u8 n13),(25,bo true),(26,bo true),(27,bo true),(28,bo true),(29,AV.int IntKind.u8 n13),(30,bo true),(31,bo true)] []
theorem f75_r0_ttftt (s0:ByteArray) (X:Ext) (call:Caller) (lf:Nat) (i0:Nat) (n13:Int)
  (h0:decide ((↑i0:Int) < (↑(ByteArray.size s0):Int))=true)
  (h1:keep [] (indexv Tryz.prog 9 (st s0) (i6 (↑i0:Int)))=some (AV.int IntKind.u8 n13,[]))
  (h2:decide (n13 < 97)=true)
  (h3:decide (n13 < 48)=false)
  (h4:decide (n13 > 57)=true)
  (h5:(n13 != 45)=true):vexec Tryz.prog X call lf 0 noFg (loopN Tryz.f38 0) (f75_F0 s0 i0)=some (Ex.ret,(f75_S1 s0 i0 n13)) :=
  around_sound (ans:=[(4,Ans.b true),(9,Ans.v (AV.int IntKind.u8 n13)),(13,Ans.b true),(22,Ans.b false),(28,Ans.b true),(36,Ans.b true)]) (by kernel_rfl) (ai h0 (ai h1 (ai h2 (ai h3 (ai h4 (ai h5 trivial))))))
theorem f75_plttftt (s0:ByteArray) (X:Ext) (call:Caller) (lf:Nat) (i0:Nat) (n13:Int)
  (h0:vexec Tryz.prog X call lf 0 noFg (Code.loop (loopN Tryz.f38 0)) (stOf 34 [] [(0,st s0),(2,bo false),(3,i6 0)] [])=some (Ex.ret,(f75_S1 s0 i0 n13))):vbody Tryz.prog X call lf noFg Tryz.f38 (codeOf Tryz.f38) [st s0] [] 0=some (bo false,[]) :=
  along_sound (ans:=[(4,Ans.l Ex.ret (f75_S1 s0 i0 n13))]) (by kernel_rfl) (ai h0 trivial)
theorem f75_s0_ttftf (s0:ByteArray) (X:Ext) (call:Caller) (lf:Nat) (i0:Nat) (n13:Int)
  (h0:decide ((↑i0:Int) < (↑(ByteArray.size s0):Int))=true)
  (h1:keep [] (indexv Tryz.prog 9 (st s0) (i6 (↑i0:Int)))=some (AV.int IntKind.u8 n13,[]))
  (h2:decide (n13 < 97)=true)
  (h3:decide (n13 < 48)=false)
  (h4:decide (n13 > 57)=true)
  (h5:(n13 != 45)=false)
  (e0:(↑(i0 + 1):Int)=w6 ((↑i0:Int) + 1)):∃ S1,vexec Tryz.prog X call lf 0 noFg (loopN Tryz.f38 0) (f75_F0 s0 i0)=some (Ex.normal,S1)∧forget f75_D0 S1=(f75_F0 s0 (i0 + 1)) :=
  ⟨stOf 34 [2] [(0,st s0),(3,i6 (w6 ((↑i0:Int) + 1))),(4,AV.int IntKind.u8 n13),(5,i6 (↑i0:Int)),(6,st s0),(7,i6 (↑(ByteArray.size s0):Int)),(8,bo true),(9,i6 (↑i0:Int)),(10,i6 (w6 ((↑i0:Int) + 1))),(11,st s0),(12,i6 (↑i0:Int)),(13,AV.int IntKind.u8 n13),(14,AV.int IntKind.u8 n13),(15,bo true),(16,bo true),(19,bo true),(20,bo true),(21,AV.int IntKind.u8 n13),(22,bo false),(23,bo false),(24,AV.int IntKind.u8 n13),(25,bo true),(26,bo true),(27,bo true),(28,bo true),(29,AV.int IntKind.u8 n13),(30,bo false),(31,bo false)] [],around_sound (ans:=[(4,Ans.b true),(9,Ans.v (AV.int IntKind.u8 n13)),(13,Ans.b true),(22,Ans.b false),(28,Ans.b true),(36,Ans.b false)]) (by kernel_rfl) (ai h0 (ai h1 (ai h2 (ai h3 (ai h4 (ai h5 trivial)))))),by unfold f75_F0; rw [e0]; show _=_; kernel_rfl⟩
theorem f75_s0_ttff (s0:ByteArray) (X:Ext) (call:Caller) (lf:Nat) (i0:Nat) (n13:Int)
  (h0:decide ((↑i0:Int) < (↑(ByteArray.size s0):Int))=true)
  (h1:keep [] (indexv Tryz.prog 9 (st s0) (i6 (↑i0:Int)))=some (AV.int IntKind.u8 n13,[]))
  (h2:decide (n13 < 97)=true)
  (h3:decide (n13 < 48)=false)
  (h4:decide (n13 > 57)=false)
  (e0:(↑(i0 + 1):Int)=w6 ((↑i0:Int) + 1)):∃ S1,vexec Tryz.prog X call lf 0 noFg (loopN Tryz.f38 0) (f75_F0 s0 i0)=some (Ex.normal,S1)∧forget f75_D0 S1=(f75_F0 s0 (i0 + 1)) :=
  ⟨stOf 34 [2] [(0,st s0),(3,i6 (w6 ((↑i0:Int) + 1))),(4,AV.int IntKind.u8 n13),(5,i6 (↑i0:Int)),(6,st s0),(7,i6 (↑(ByteArray.size s0):Int)),(8,bo true),(9,i6 (↑i0:Int)),(10,i6 (w6 ((↑i0:Int) + 1))),(11,st s0),(12,i6 (↑i0:Int)),(13,AV.int IntKind.u8 n13),(14,AV.int IntKind.u8 n13),(15,bo true),(16,bo true),(19,bo true),(20,bo true),(21,AV.int IntKind.u8 n13),(22,bo false),(23,bo false),(24,AV.int IntKind.u8 n13),(25,bo false),(26,bo false),(27,bo false),(28,bo false),(31,bo false)] [],around_sound (ans:=[(4,Ans.b true),(9,Ans.v (AV.int IntKind.u8 n13)),(13,Ans.b true),(22,Ans.b false),(28,Ans.b false)]) (by kernel_rfl) (ai h0 (ai h1 (ai h2 (ai h3 (ai h4 trivial))))),by unfold f75_F0; rw [e0]; show _=_; kernel_rfl⟩
def f75_S2 (s0:ByteArray) (i0:Nat) (n13:Int):St :=
  stOf 34 [9,10] [(0,st s0),(2,bo false),(3,i6 (↑i0:Int)),(4,AV.int IntKind.u8 n13),(5,i6 (↑i0:Int)),(6,st s0),(7,i6 (↑(ByteArray.size s0):Int)),(8,bo true),(11,st s0),(12,i6 (↑i0:Int)),(13,AV.int IntKind.u8 n13),(14,AV.int IntKind.u8 n13),(15,bo false),(16,bo false),(17,AV.int IntKind.u8 n13),(18,bo true),(19,bo true),(20,bo true),(21,AV.int IntKind.u8 n13),(22,bo true),(23,bo true),(26,bo true),(27,bo true),(28,bo true),(29,AV.int IntKind.u8 n13),(30,bo true),(31,bo true)] []
theorem f75_r0_tfttt (s0:ByteArray) (X:Ext) (call:Caller) (lf:Nat) (i0:Nat) (n13:Int)
  (h0:decide ((↑i0:Int) < (↑(ByteArray.size s0):Int))=true)
  (h1:keep [] (indexv Tryz.prog 9 (st s0) (i6 (↑i0:Int)))=some (AV.int IntKind.u8 n13,[]))
  (h2:decide (n13 < 97)=false)
  (h3:decide (n13 > 122)=true)
  (h4:decide (n13 < 48)=true)
  (h5:(n13 != 45)=true):vexec Tryz.prog X call lf 0 noFg (loopN Tryz.f38 0) (f75_F0 s0 i0)=some (Ex.ret,(f75_S2 s0 i0 n13)) :=
  around_sound (ans:=[(4,Ans.b true),(9,Ans.v (AV.int IntKind.u8 n13)),(13,Ans.b false),(18,Ans.b true),(24,Ans.b true),(36,Ans.b true)]) (by kernel_rfl) (ai h0 (ai h1 (ai h2 (ai h3 (ai h4 (ai h5 trivial))))))
theorem f75_pltfttt (s0:ByteArray) (X:Ext) (call:Caller) (lf:Nat) (i0:Nat) (n13:Int)
  (h0:vexec Tryz.prog X call lf 0 noFg (Code.loop (loopN Tryz.f38 0)) (stOf 34 [] [(0,st s0),(2,bo false),(3,i6 0)] [])=some (Ex.ret,(f75_S2 s0 i0 n13))):vbody Tryz.prog X call lf noFg Tryz.f38 (codeOf Tryz.f38) [st s0] [] 0=some (bo false,[]) :=
  along_sound (ans:=[(4,Ans.l Ex.ret (f75_S2 s0 i0 n13))]) (by kernel_rfl) (ai h0 trivial)
theorem f75_s0_tfttf (s0:ByteArray) (X:Ext) (call:Caller) (lf:Nat) (i0:Nat) (n13:Int)
  (h0:decide ((↑i0:Int) < (↑(ByteArray.size s0):Int))=true)
  (h1:keep [] (indexv Tryz.prog 9 (st s0) (i6 (↑i0:Int)))=some (AV.int IntKind.u8 n13,[]))
  (h2:decide (n13 < 97)=false)
  (h3:decide (n13 > 122)=true)
  (h4:decide (n13 < 48)=true)
  (h5:(n13 != 45)=false)
  (e0:(↑(i0 + 1):Int)=w6 ((↑i0:Int) + 1)):∃ S1,vexec Tryz.prog X call lf 0 noFg (loopN Tryz.f38 0) (f75_F0 s0 i0)=some (Ex.normal,S1)∧forget f75_D0 S1=(f75_F0 s0 (i0 + 1)) :=
  ⟨stOf 34 [2] [(0,st s0),(3,i6 (w6 ((↑i0:Int) + 1))),(4,AV.int IntKind.u8 n13),(5,i6 (↑i0:Int)),(6,st s0),(7,i6 (↑(ByteArray.size s0):Int)),(8,bo true),(9,i6 (↑i0:Int)),(10,i6 (w6 ((↑i0:Int) + 1))),(11,st s0),(12,i6 (↑i0:Int)),(13,AV.int IntKind.u8 n13),(14,AV.int IntKind.u8 n13),(15,bo false),(16,bo false),(17,AV.int IntKind.u8 n13),(18,bo true),(19,bo true),(20,bo true),(21,AV.int IntKind.u8 n13),(22,bo true),(23,bo true),(26,bo true),(27,bo true),(28,bo true),(29,AV.int IntKind.u8 n13),(30,bo false),(31,bo false)] [],around_sound (ans:=[(4,Ans.b true),(9,Ans.v (AV.int IntKind.u8 n13)),(13,Ans.b false),(18,Ans.b true),(24,Ans.b true),(36,Ans.b false)]) (by kernel_rfl) (ai h0 (ai h1 (ai h2 (ai h3 (ai h4 (ai h5 trivial)))))),by unfold f75_F0; rw [e0]; show _=_; kernel_rfl⟩
def f75_S3 (s0:ByteArray) (i0:Nat) (n13:Int):St :=
  stOf 34 [9,10] [(0,st s0),(2,bo false),(3,i6 (↑i0:Int)),(4,AV.int IntKind.u8 n13),(5,i6 (↑i0:Int)),(6,st s0),(7,i6 (↑(ByteArray.size s0):Int)),(8,bo true),(11,st s0),(12,i6 (↑i0:Int)),(13,AV.int IntKind.u8 n13),(14,AV.int IntKind.u8 n13),(15,bo false),(16,bo false),(17,AV.int IntKind.u8 n13),(18,bo true),(19,bo true),(20,bo true),(21,AV.int IntKind.u8 n13),(22,bo false),(23,bo false),(24,AV.int IntKind.u8 n13),(25,bo true),(26,bo true),(27,bo true),(28,bo true),(29,AV.int IntKind.u8 n13),(30,bo true),(31,bo true)] []
theorem f75_r0_tftftt (s0:ByteArray) (X:Ext) (call:Caller) (lf:Nat) (i0:Nat) (n13:Int)
  (h0:decide ((↑i0:Int) < (↑(ByteArray.size s0):Int))=true)
  (h1:keep [] (indexv Tryz.prog 9 (st s0) (i6 (↑i0:Int)))=some (AV.int IntKind.u8 n13,[]))
  (h2:decide (n13 < 97)=false)
  (h3:decide (n13 > 122)=true)
  (h4:decide (n13 < 48)=false)
  (h5:decide (n13 > 57)=true)
  (h6:(n13 != 45)=true):vexec Tryz.prog X call lf 0 noFg (loopN Tryz.f38 0) (f75_F0 s0 i0)=some (Ex.ret,(f75_S3 s0 i0 n13)) :=
  around_sound (ans:=[(4,Ans.b true),(9,Ans.v (AV.int IntKind.u8 n13)),(13,Ans.b false),(18,Ans.b true),(24,Ans.b false),(30,Ans.b true),(38,Ans.b true)]) (by kernel_rfl) (ai h0 (ai h1 (ai h2 (ai h3 (ai h4 (ai h5 (ai h6 trivial)))))))
theorem f75_pltftftt (s0:ByteArray) (X:Ext) (call:Caller) (lf:Nat) (i0:Nat) (n13:Int)
  (h0:vexec Tryz.prog X call lf 0 noFg (Code.loop (loopN Tryz.f38 0)) (stOf 34 [] [(0,st s0),(2,bo false),(3,i6 0)] [])=some (Ex.ret,(f75_S3 s0 i0 n13))):vbody Tryz.prog X call lf noFg Tryz.f38 (codeOf Tryz.f38) [st s0] [] 0=some (bo false,[]) :=
  along_sound (ans:=[(4,Ans.l Ex.ret (f75_S3 s0 i0 n13))]) (by kernel_rfl) (ai h0 trivial)
theorem f75_s0_tftftf (s0:ByteArray) (X:Ext) (call:Caller) (lf:Nat) (i0:Nat) (n13:Int)
  (h0:decide ((↑i0:Int) < (↑(ByteArray.size s0):Int))=true)
  (h1:keep [] (indexv Tryz.prog 9 (st s0) (i6 (↑i0:Int)))=some (AV.int IntKind.u8 n13,[]))
  (h2:decide (n13 < 97)=false)
  (h3:decide (n13 > 122)=true)
  (h4:decide (n13 < 48)=false)
  (h5:decide (n13 > 57)=true)
  (h6:(n13 != 45)=false)
  (e0:(↑(i0 + 1):Int)=w6 ((↑i0:Int) + 1)):∃ S1,vexec Tryz.prog X call lf 0 noFg (loopN Tryz.f38 0) (f75_F0 s0 i0)=some (Ex.normal,S1)∧forget f75_D0 S1=(f75_F0 s0 (i0 + 1)) :=
  ⟨stOf 34 [2] [(0,st s0),(3,i6 (w6 ((↑i0:Int) + 1))),(4,AV.int IntKind.u8 n13),(5,i6 (↑i0:Int)),(6,st s0),(7,i6 (↑(ByteArray.size s0):Int)),(8,bo true),(9,i6 (↑i0:Int)),(10,i6 (w6 ((↑i0:Int) + 1))),(11,st s0),(12,i6 (↑i0:Int)),(13,AV.int IntKind.u8 n13),(14,AV.int IntKind.u8 n13),(15,bo false),(16,bo false),(17,AV.int IntKind.u8 n13),(18,bo true),(19,bo true),(20,bo true),(21,AV.int IntKind.u8 n13),(22,bo false),(23,bo false),(24,AV.int IntKind.u8 n13),(25,bo true),(26,bo true),(27,bo true),(28,bo true),(29,AV.int IntKind.u8 n13),(30,bo false),(31,bo false)] [],around_sound (ans:=[(4,Ans.b true),(9,Ans.v (AV.int IntKind.u8 n13)),(13,Ans.b false),(18,Ans.b true),(24,Ans.b false),(30,Ans.b true),(38,Ans.b false)]) (by kernel_rfl) (ai h0 (ai h1 (ai h2 (ai h3 (ai h4 (ai h5 (ai h6 trivial))))))),by unfold f75_F0; rw [e0]; show _=_; kernel_rfl⟩
theorem f75_s0_tftff (s0:ByteArray) (X:Ext) (call:Caller) (lf:Nat) (i0:Nat) (n13:Int)
  (h0:decide ((↑i0:Int) < (↑(ByteArray.size s0):Int))=true)
  (h1:keep [] (indexv Tryz.prog 9 (st s0) (i6 (↑i0:Int)))=some (AV.int IntKind.u8 n13,[]))
  (h2:decide (n13 < 97)=false)
  (h3:decide (n13 > 122)=true)
  (h4:decide (n13 < 48)=false)
  (h5:decide (n13 > 57)=false)
  (e0:(↑(i0 + 1):Int)=w6 ((↑i0:Int) + 1)):∃ S1,vexec Tryz.prog X call lf 0 noFg (loopN Tryz.f38 0) (f75_F0 s0 i0)=some (Ex.normal,S1)∧forget f75_D0 S1=(f75_F0 s0 (i0 + 1)) :=
  ⟨stOf 34 [2] [(0,st s0),(3,i6 (w6 ((↑i0:Int) + 1))),(4,AV.int IntKind.u8 n13),(5,i6 (↑i0:Int)),(6,st s0),(7,i6 (↑(ByteArray.size s0):Int)),(8,bo true),(9,i6 (↑i0:Int)),(10,i6 (w6 ((↑i0:Int) + 1))),(11,st s0),(12,i6 (↑i0:Int)),(13,AV.int IntKind.u8 n13),(14,AV.int IntKind.u8 n13),(15,bo false),(16,bo false),(17,AV.int IntKind.u8 n13),(18,bo true),(19,bo true),(20,bo true),(21,AV.int IntKind.u8 n13),(22,bo false),(23,bo false),(24,AV.int IntKind.u8 n13),(25,bo false),(26,bo false),(27,bo false),(28,bo false),(31,bo false)] [],around_sound (ans:=[(4,Ans.b true),(9,Ans.v (AV.int IntKind.u8 n13)),(13,Ans.b false),(18,Ans.b true),(24,Ans.b false),(30,Ans.b false)]) (by kernel_rfl) (ai h0 (ai h1 (ai h2 (ai h3 (ai h4 (ai h5 trivial)))))),by unfold f75_F0; rw [e0]; show _=_; kernel_rfl⟩
theorem f75_s0_tff (s0:ByteArray) (X:Ext) (call:Caller) (lf:Nat) (i0:Nat) (n13:Int)
  (h0:decide ((↑i0:Int) < (↑(ByteArray.size s0):Int))=true)
  (h1:keep [] (indexv Tryz.prog 9 (st s0) (i6 (↑i0:Int)))=some (AV.int IntKind.u8 n13,[]))
  (h2:decide (n13 < 97)=false)
  (h3:decide (n13 > 122)=false)
  (e0:(↑(i0 + 1):Int)=w6 ((↑i0:Int) + 1)):∃ S1,vexec Tryz.prog X call lf 0 noFg (loopN Tryz.f38 0) (f75_F0 s0 i0)=some (Ex.normal,S1)∧forget f75_D0 S1=(f75_F0 s0 (i0 + 1)) :=
  ⟨stOf 34 [2] [(0,st s0),(3,i6 (w6 ((↑i0:Int) + 1))),(4,AV.int IntKind.u8 n13),(5,i6 (↑i0:Int)),(6,st s0),(7,i6 (↑(ByteArray.size s0):Int)),(8,bo true),(9,i6 (↑i0:Int)),(10,i6 (w6 ((↑i0:Int) + 1))),(11,st s0),(12,i6 (↑i0:Int)),(13,AV.int IntKind.u8 n13),(14,AV.int IntKind.u8 n13),(15,bo false),(16,bo false),(17,AV.int IntKind.u8 n13),(18,bo false),(19,bo false),(20,bo false),(27,bo false),(28,bo false),(31,bo false)] [],around_sound (ans:=[(4,Ans.b true),(9,Ans.v (AV.int IntKind.u8 n13)),(13,Ans.b false),(18,Ans.b false)]) (by kernel_rfl) (ai h0 (ai h1 (ai h2 (ai h3 trivial)))),by unfold f75_F0; rw [e0]; show _=_; kernel_rfl⟩
def f75_S4 (s0:ByteArray) (i0:Nat):St :=
  stOf 34 [2,4,9,10,11,12,13,14,15,16,17,18,19,20,21,22,23,24,25,26,27,28,29,30,31] [(0,st s0),(3,i6 (↑i0:Int)),(5,i6 (↑i0:Int)),(6,st s0),(7,i6 (↑(ByteArray.size s0):Int)),(8,bo false)] []
theorem f75_r0_f (s0:ByteArray) (X:Ext) (call:Caller) (lf:Nat) (i0:Nat)
  (h0:decide ((↑i0:Int) < (↑(ByteArray.size s0):Int))=false):vexec Tryz.prog X call lf 0 noFg (loopN Tryz.f38 0) (f75_F0 s0 i0)=some (Ex.exit 0,(f75_S4 s0 i0)) :=
  around_sound (ans:=[(4,Ans.b false)]) (by kernel_rfl) (ai h0 trivial)
theorem f75_plft (s0:ByteArray) (X:Ext) (call:Caller) (lf:Nat) (i0:Nat)
  (h0:vexec Tryz.prog X call lf 0 noFg (Code.loop (loopN Tryz.f38 0)) (stOf 34 [] [(0,st s0),(2,bo false),(3,i6 0)] [])=some (Ex.exit 0,(f75_S4 s0 i0)))
  (h1:(!ByteArray.toList s0 == ByteArray.toList (ByteArray.mk #[]))=true):vbody Tryz.prog X call lf noFg Tryz.f38 (codeOf Tryz.f38) [st s0] [] 0=some (bo true,[]) :=
  along_sound (ans:=[(4,Ans.l (Ex.exit 0) (f75_S4 s0 i0)),(7,Ans.b true)]) (by kernel_rfl) (ai h0 (ai h1 trivial))
theorem f75_plff (s0:ByteArray) (X:Ext) (call:Caller) (lf:Nat) (i0:Nat)
  (h0:vexec Tryz.prog X call lf 0 noFg (Code.loop (loopN Tryz.f38 0)) (stOf 34 [] [(0,st s0),(2,bo false),(3,i6 0)] [])=some (Ex.exit 0,(f75_S4 s0 i0)))
  (h1:(!ByteArray.toList s0 == ByteArray.toList (ByteArray.mk #[]))=false):vbody Tryz.prog X call lf noFg Tryz.f38 (codeOf Tryz.f38) [st s0] [] 0=some (bo false,[]) :=
  along_sound (ans:=[(4,Ans.l (Ex.exit 0) (f75_S4 s0 i0)),(7,Ans.b false)]) (by kernel_rfl) (ai h0 (ai h1 trivial))
def f75_o0 (s0:ByteArray) (i0:Nat) (n13:Int):Nat :=
  (match decide ((↑i0:Int) < (↑(ByteArray.size s0):Int)) with
  | true => (match decide (n13 < 97) with
    | true => (match decide (n13 < 48) with
      | true => (match (n13 != 45) with
        | true=>1
        | false=>0)
      | false => (match decide (n13 > 57) with
        | true => (match (n13 != 45) with
          | true=>2
          | false=>0)
        | false=>0))
    | false => (match decide (n13 > 122) with
      | true => (match decide (n13 < 48) with
        | true => (match (n13 != 45) with
          | true=>3
          | false=>0)
        | false => (match decide (n13 > 57) with
          | true => (match (n13 != 45) with
            | true=>4
            | false=>0)
          | false=>0))
      | false=>0))
  | false=>5)
theorem f75_B0 (s0:ByteArray) (X:Ext) (call:Caller) (lf:Nat) (i0:Nat) (n13:Int)
  (g0:decide ((↑i0:Int) < (↑(ByteArray.size s0):Int))=true→keep [] (indexv Tryz.prog 9 (st s0) (i6 (↑i0:Int)))=some (AV.int IntKind.u8 n13,[]))
  (e0 : decide ((↑i0 : Int) < (↑(ByteArray.size s0) : Int)) = true → (↑(i0 + 1) : Int) = w6 ((↑i0 : Int) + 1)) :
    (f75_o0 s0 i0 n13=0→∃ S1,vexec Tryz.prog X call lf 0 noFg (loopN Tryz.f38 0) (f75_F0 s0 i0)=some (Ex.normal,S1)∧forget f75_D0 S1=(f75_F0 s0 (i0 + 1)))∧(f75_o0 s0 i0 n13=1→vexec Tryz.prog X call lf 0 noFg (loopN Tryz.f38 0) (f75_F0 s0 i0)=some (Ex.ret,(f75_S0 s0 i0 n13)))∧(f75_o0 s0 i0 n13=2→vexec Tryz.prog X call lf 0 noFg (loopN Tryz.f38 0) (f75_F0 s0 i0)=some (Ex.ret,(f75_S1 s0 i0 n13)))∧(f75_o0 s0 i0 n13=3→vexec Tryz.prog X call lf 0 noFg (loopN Tryz.f38 0) (f75_F0 s0 i0)=some (Ex.ret,(f75_S2 s0 i0 n13)))∧(f75_o0 s0 i0 n13=4→vexec Tryz.prog X call lf 0 noFg (loopN Tryz.f38 0) (f75_F0 s0 i0)=some (Ex.ret,(f75_S3 s0 i0 n13)))∧(f75_o0 s0 i0 n13=5→vexec Tryz.prog X call lf 0 noFg (loopN Tryz.f38 0) (f75_F0 s0 i0)=some (Ex.exit 0,(f75_S4 s0 i0))):=by
  unfold f75_o0
  cases c0:decide ((↑i0:Int) < (↑(ByteArray.size s0):Int)) with
  | true =>
    cases c1:decide (n13 < 97) with
    | true =>
      cases c2:decide (n13 < 48) with
      | true =>
        cases c3:(n13 != 45) with
        | true =>
          exact ⟨fun h=>nq h,fun _=>f75_r0_tttt s0 X call lf i0 n13 c0 (g0 c0) c1 c2 c3,fun h=>nq h,fun h=>nq h,fun h=>nq h,fun h=>nq h⟩
        | false =>
          exact ⟨fun _=>f75_s0_tttf s0 X call lf i0 n13 c0 (g0 c0) c1 c2 c3 (e0 c0),fun h=>nq h,fun h=>nq h,fun h=>nq h,fun h=>nq h,fun h=>nq h⟩
      | false =>
        cases c3:decide (n13 > 57) with
        | true =>
          cases c4:(n13 != 45) with
          | true =>
            exact ⟨fun h=>nq h,fun h=>nq h,fun _=>f75_r0_ttftt s0 X call lf i0 n13 c0 (g0 c0) c1 c2 c3 c4,fun h=>nq h,fun h=>nq h,fun h=>nq h⟩
          | false =>
            exact ⟨fun _=>f75_s0_ttftf s0 X call lf i0 n13 c0 (g0 c0) c1 c2 c3 c4 (e0 c0),fun h=>nq h,fun h=>nq h,fun h=>nq h,fun h=>nq h,fun h=>nq h⟩
        | false =>
          exact ⟨fun _=>f75_s0_ttff s0 X call lf i0 n13 c0 (g0 c0) c1 c2 c3 (e0 c0),fun h=>nq h,fun h=>nq h,fun h=>nq h,fun h=>nq h,fun h=>nq h⟩
    | false =>
      cases c2:decide (n13 > 122) with
      | true =>
        cases c3:decide (n13 < 48) with
        | true =>
          cases c4:(n13 != 45) with
          | true =>
            exact ⟨fun h=>nq h,fun h=>nq h,fun h=>nq h,fun _=>f75_r0_tfttt s0 X call lf i0 n13 c0 (g0 c0) c1 c2 c3 c4,fun h=>nq h,fun h=>nq h⟩
          | false =>
            exact ⟨fun _=>f75_s0_tfttf s0 X call lf i0 n13 c0 (g0 c0) c1 c2 c3 c4 (e0 c0),fun h=>nq h,fun h=>nq h,fun h=>nq h,fun h=>nq h,fun h=>nq h⟩
        | false =>
          cases c4:decide (n13 > 57) with
          | true =>
            cases c5:(n13 != 45) with
            | true =>
              exact ⟨fun h=>nq h,fun h=>nq h,fun h=>nq h,fun h=>nq h,fun _=>f75_r0_tftftt s0 X call lf i0 n13 c0 (g0 c0) c1 c2 c3 c4 c5,fun h=>nq h⟩
            | false =>
              exact ⟨fun _=>f75_s0_tftftf s0 X call lf i0 n13 c0 (g0 c0) c1 c2 c3 c4 c5 (e0 c0),fun h=>nq h,fun h=>nq h,fun h=>nq h,fun h=>nq h,fun h=>nq h⟩
          | false =>
            exact ⟨fun _=>f75_s0_tftff s0 X call lf i0 n13 c0 (g0 c0) c1 c2 c3 c4 (e0 c0),fun h=>nq h,fun h=>nq h,fun h=>nq h,fun h=>nq h,fun h=>nq h⟩
      | false =>
        exact ⟨fun _=>f75_s0_tff s0 X call lf i0 n13 c0 (g0 c0) c1 c2 (e0 c0),fun h=>nq h,fun h=>nq h,fun h=>nq h,fun h=>nq h,fun h=>nq h⟩
  | false =>
    exact ⟨fun h=>nq h,fun h=>nq h,fun h=>nq h,fun h=>nq h,fun h=>nq h,fun _=>f75_r0_f s0 X call lf i0 c0⟩
theorem f75_X0 (s0:ByteArray) (X:Ext) (call:Caller) (lf:Nat) (i0:Nat) (n13:Int)
  (g0 : decide ((↑i0 : Int) < (↑(ByteArray.size s0) : Int)) = true → keep [] (indexv Tryz.prog 9 (st s0) (i6 (↑i0 : Int))) = some (AV.int IntKind.u8 n13, [])) :
    (f75_o0 s0 i0 n13=1→vexec Tryz.prog X call lf 0 noFg (loopN Tryz.f38 0) (f75_F0 s0 i0)=some (Ex.ret,(f75_S0 s0 i0 n13)))∧(f75_o0 s0 i0 n13=2→vexec Tryz.prog X call lf 0 noFg (loopN Tryz.f38 0) (f75_F0 s0 i0)=some (Ex.ret,(f75_S1 s0 i0 n13)))∧(f75_o0 s0 i0 n13=3→vexec Tryz.prog X call lf 0 noFg (loopN Tryz.f38 0) (f75_F0 s0 i0)=some (Ex.ret,(f75_S2 s0 i0 n13)))∧(f75_o0 s0 i0 n13=4→vexec Tryz.prog X call lf 0 noFg (loopN Tryz.f38 0) (f75_F0 s0 i0)=some (Ex.ret,(f75_S3 s0 i0 n13)))∧(f75_o0 s0 i0 n13=5→vexec Tryz.prog X call lf 0 noFg (loopN Tryz.f38 0) (f75_F0 s0 i0)=some (Ex.exit 0,(f75_S4 s0 i0))):=by
  unfold f75_o0
  cases c0:decide ((↑i0:Int) < (↑(ByteArray.size s0):Int)) with
  | true =>
    cases c1:decide (n13 < 97) with
    | true =>
      cases c2:decide (n13 < 48) with
      | true =>
        cases c3:(n13 != 45) with
        | true =>
          exact ⟨fun _=>f75_r0_tttt s0 X call lf i0 n13 c0 (g0 c0) c1 c2 c3,fun h=>nq h,fun h=>nq h,fun h=>nq h,fun h=>nq h⟩
        | false =>
          exact ⟨fun h=>nq h,fun h=>nq h,fun h=>nq h,fun h=>nq h,fun h=>nq h⟩
      | false =>
        cases c3:decide (n13 > 57) with
        | true =>
          cases c4:(n13 != 45) with
          | true =>
            exact ⟨fun h=>nq h,fun _=>f75_r0_ttftt s0 X call lf i0 n13 c0 (g0 c0) c1 c2 c3 c4,fun h=>nq h,fun h=>nq h,fun h=>nq h⟩
          | false =>
            exact ⟨fun h=>nq h,fun h=>nq h,fun h=>nq h,fun h=>nq h,fun h=>nq h⟩
        | false =>
          exact ⟨fun h=>nq h,fun h=>nq h,fun h=>nq h,fun h=>nq h,fun h=>nq h⟩
    | false =>
      cases c2:decide (n13 > 122) with
      | true =>
        cases c3:decide (n13 < 48) with
        | true =>
          cases c4:(n13 != 45) with
          | true =>
            exact ⟨fun h=>nq h,fun h=>nq h,fun _=>f75_r0_tfttt s0 X call lf i0 n13 c0 (g0 c0) c1 c2 c3 c4,fun h=>nq h,fun h=>nq h⟩
          | false =>
            exact ⟨fun h=>nq h,fun h=>nq h,fun h=>nq h,fun h=>nq h,fun h=>nq h⟩
        | false =>
          cases c4:decide (n13 > 57) with
          | true =>
            cases c5:(n13 != 45) with
            | true =>
              exact ⟨fun h=>nq h,fun h=>nq h,fun h=>nq h,fun _=>f75_r0_tftftt s0 X call lf i0 n13 c0 (g0 c0) c1 c2 c3 c4 c5,fun h=>nq h⟩
            | false =>
              exact ⟨fun h=>nq h,fun h=>nq h,fun h=>nq h,fun h=>nq h,fun h=>nq h⟩
          | false =>
            exact ⟨fun h=>nq h,fun h=>nq h,fun h=>nq h,fun h=>nq h,fun h=>nq h⟩
      | false =>
        exact ⟨fun h=>nq h,fun h=>nq h,fun h=>nq h,fun h=>nq h,fun h=>nq h⟩
  | false =>
    exact ⟨fun h=>nq h,fun h=>nq h,fun h=>nq h,fun h=>nq h,fun _=>f75_r0_f s0 X call lf i0 c0⟩
theorem f75_M (s0:ByteArray) (X:Ext) (call:Caller) (lf:Nat) (n:Nat) (n13:Nat→Int)
  (hn:n < lf)
  (g0:∀ i0,i0 ≤ n→decide ((↑i0:Int) < (↑(ByteArray.size s0):Int))=true→keep [] (indexv Tryz.prog 9 (st s0) (i6 (↑i0:Int)))=some (AV.int IntKind.u8 (n13 i0),[]))
  (e0:∀ i0,i0 < n→decide ((↑i0:Int) < (↑(ByteArray.size s0):Int))=true→(↑(i0 + 1):Int)=w6 ((↑i0:Int) + 1))
  (hz : ∀ j, j < n → f75_o0 s0 j (n13 j) = 0) :
    (f75_o0 s0 n (n13 n)=1→vbody Tryz.prog X call lf noFg Tryz.f38 (codeOf Tryz.f38) [st s0] [] 0=some (bo false,[]))∧(f75_o0 s0 n (n13 n)=2→vbody Tryz.prog X call lf noFg Tryz.f38 (codeOf Tryz.f38) [st s0] [] 0=some (bo false,[]))∧(f75_o0 s0 n (n13 n)=3→vbody Tryz.prog X call lf noFg Tryz.f38 (codeOf Tryz.f38) [st s0] [] 0=some (bo false,[]))∧(f75_o0 s0 n (n13 n)=4→vbody Tryz.prog X call lf noFg Tryz.f38 (codeOf Tryz.f38) [st s0] [] 0=some (bo false,[]))∧(f75_o0 s0 n (n13 n)=5→(!ByteArray.toList s0 == ByteArray.toList (ByteArray.mk #[]))=true→vbody Tryz.prog X call lf noFg Tryz.f38 (codeOf Tryz.f38) [st s0] [] 0=some (bo true,[]))∧(f75_o0 s0 n (n13 n)=5→(!ByteArray.toList s0 == ByteArray.toList (ByteArray.mk #[]))=false→vbody Tryz.prog X call lf noFg Tryz.f38 (codeOf Tryz.f38) [st s0] [] 0=some (bo false,[])):=by
  have key:∀ j,j < n→_:=fun j hj=>(f75_B0 s0 X call lf j (n13 j) (g0 j (Nat.le_of_lt hj)) (e0 j hj)).1 (hz j hj)
  have kn:=f75_X0 s0 X call lf n (n13 n) (g0 n (Nat.le_refl n))
  exact ⟨fun hk => f75_pltttt s0 X call lf n (n13 n) (f75_L0 s0 X call lf n _ _ hn key (kn.1 hk) (by simp)),
    fun hk=>f75_plttftt s0 X call lf n (n13 n) (f75_L0 s0 X call lf n _ _ hn key (kn.2.1 hk) (by simp)),
    fun hk=>f75_pltfttt s0 X call lf n (n13 n) (f75_L0 s0 X call lf n _ _ hn key (kn.2.2.1 hk) (by simp)),
    fun hk=>f75_pltftftt s0 X call lf n (n13 n) (f75_L0 s0 X call lf n _ _ hn key (kn.2.2.2.1 hk) (by simp)),
    fun hk q0=>f75_plft s0 X call lf n (f75_L0 s0 X call lf n _ _ hn key (kn.2.2.2.2 hk) (by simp)) q0,
    fun hk q0=>f75_plff s0 X call lf n (f75_L0 s0 X call lf n _ _ hn key (kn.2.2.2.2 hk) (by simp)) q0⟩
def f81_F0 (s0:ByteArray) (i0:Nat):St :=
  stOf 35 [2,4,5,6,7,8,9,10,11,12,13,14,15,16,17,18,19,20,21,22,23,24,25,26,27,28,29,30,31] [(0,st s0),(3,i6 (↑i0:Int))] []
theorem f81_L0 (s0:ByteArray) (X:Ext) (call:Caller) (lf:Nat) (n:Nat) (x:Ex) (S' : St)
  (hn:n < lf)
  (hs:∀ j,j < n→∃ S1,vexec Tryz.prog X call lf 0 noFg (loopN Tryz.f58 0) (f81_F0 s0 j)=some (Ex.normal,S1)∧forget f75_D0 S1=(f81_F0 s0 (j + 1)))
  (he:vexec Tryz.prog X call lf 0 noFg (loopN Tryz.f58 0) (f81_F0 s0 n)=some (x,S'))
  (hx:x ≠ Ex.normal):vexec Tryz.prog X call lf 0 noFg (Go.Code.loop (loopN Tryz.f58 0)) (stOf 35 [] [(0,st s0),(2,bo false),(3,i6 0)] [])=some (x,S') :=
  loop_runK (by kernel_rfl) (fun j=>(f81_F0 s0 j)) n hn (by show forget f75_D0 (stOf 35 [] [(0,st s0),(2,bo false),(3,i6 0)] [])=(f81_F0 s0 0); unfold f81_F0; show _=_; kernel_rfl) hs he hx
def f81_S0 (s0:ByteArray) (i0:Nat) (n13:Int):St :=
  stOf 35 [9,10] [(0,st s0),(2,bo false),(3,i6 (↑i0:Int)),(4,AV.int IntKind.u8 n13),(5,i6 (↑i0:Int)),(6,st s0),(7,i6 (↑(ByteArray.size s0):Int)),(8,bo true),(11,st s0),(12,i6 (↑i0:Int)),(13,AV.int IntKind.u8 n13),(14,AV.int IntKind.u8 n13),(15,bo true),(16,bo true),(19,bo true),(20,bo true),(21,AV.int IntKind.u8 n13),(22,bo true),(23,bo true),(26,bo true),(27,bo true),(28,bo true),(29,AV.int IntKind.u8 n13),(30,bo true),(31,bo true)] []
theorem f81_r0_tttt (s0:ByteArray) (X:Ext) (call:Caller) (lf:Nat) (i0:Nat) (n13:Int)
  (h0:decide ((↑i0:Int) < (↑(ByteArray.size s0):Int))=true)
  (h1:keep [] (indexv Tryz.prog 9 (st s0) (i6 (↑i0:Int)))=some (AV.int IntKind.u8 n13,[]))
  (h2:decide (n13 < 97)=true)
  (h3:decide (n13 < 48)=true)
  (h4:(n13 != 45)=true):vexec Tryz.prog X call lf 0 noFg (loopN Tryz.f58 0) (f81_F0 s0 i0)=some (Ex.ret,(f81_S0 s0 i0 n13)) :=
  around_sound (ans:=[(4,Ans.b true),(9,Ans.v (AV.int IntKind.u8 n13)),(13,Ans.b true),(22,Ans.b true),(34,Ans.b true)]) (by kernel_rfl) (ai h0 (ai h1 (ai h2 (ai h3 (ai h4 trivial)))))
theorem f81_pltttt (s0:ByteArray) (X:Ext) (call:Caller) (lf:Nat) (i0:Nat) (n13:Int)
  (h0:vexec Tryz.prog X call lf 0 noFg (Code.loop (loopN Tryz.f58 0)) (stOf 35 [] [(0,st s0),(2,bo false),(3,i6 0)] [])=some (Ex.ret,(f81_S0 s0 i0 n13))):vbody Tryz.prog X call lf noFg Tryz.f58 (codeOf Tryz.f58) [st s0] [] 0=some (bo false,[]) :=
  along_sound (ans:=[(4,Ans.l Ex.ret (f81_S0 s0 i0 n13))]) (by kernel_rfl) (ai h0 trivial)
theorem f81_s0_tttf (s0:ByteArray) (X:Ext) (call:Caller) (lf:Nat) (i0:Nat) (n13:Int)
  (h0:decide ((↑i0:Int) < (↑(ByteArray.size s0):Int))=true)
  (h1:keep [] (indexv Tryz.prog 9 (st s0) (i6 (↑i0:Int)))=some (AV.int IntKind.u8 n13,[]))
  (h2:decide (n13 < 97)=true)
  (h3:decide (n13 < 48)=true)
  (h4:(n13 != 45)=false)
  (e0:(↑(i0 + 1):Int)=w6 ((↑i0:Int) + 1)):∃ S1,vexec Tryz.prog X call lf 0 noFg (loopN Tryz.f58 0) (f81_F0 s0 i0)=some (Ex.normal,S1)∧forget f75_D0 S1=(f81_F0 s0 (i0 + 1)) :=
  ⟨stOf 35 [2] [(0,st s0),(3,i6 (w6 ((↑i0:Int) + 1))),(4,AV.int IntKind.u8 n13),(5,i6 (↑i0:Int)),(6,st s0),(7,i6 (↑(ByteArray.size s0):Int)),(8,bo true),(9,i6 (↑i0:Int)),(10,i6 (w6 ((↑i0:Int) + 1))),(11,st s0),(12,i6 (↑i0:Int)),(13,AV.int IntKind.u8 n13),(14,AV.int IntKind.u8 n13),(15,bo true),(16,bo true),(19,bo true),(20,bo true),(21,AV.int IntKind.u8 n13),(22,bo true),(23,bo true),(26,bo true),(27,bo true),(28,bo true),(29,AV.int IntKind.u8 n13),(30,bo false),(31,bo false)] [],around_sound (ans:=[(4,Ans.b true),(9,Ans.v (AV.int IntKind.u8 n13)),(13,Ans.b true),(22,Ans.b true),(34,Ans.b false)]) (by kernel_rfl) (ai h0 (ai h1 (ai h2 (ai h3 (ai h4 trivial))))),by unfold f81_F0; rw [e0]; show _=_; kernel_rfl⟩
def f81_S1 (s0:ByteArray) (i0:Nat) (n13:Int):St :=
  stOf 35 [9,10] [(0,st s0),(2,bo false),(3,i6 (↑i0:Int)),(4,AV.int IntKind.u8 n13),(5,i6 (↑i0:Int)),(6,st s0),(7,i6 (↑(ByteArray.size s0):Int)),(8,bo true),(11,st s0),(12,i6 (↑i0:Int)),(13,AV.int IntKind.u8 n13),(14,AV.int IntKind.u8 n13),(15,bo true),(16,bo true),(19,bo true),(20,bo true),(21,AV.int IntKind.u8 n13),(22,bo false),(23,bo false),(24,AV.int IntKind.u8 n13),(25,bo true),(26,bo true),(27,bo true),(28,bo true),(29,AV.int IntKind.u8 n13),(30,bo true),(31,bo true)] []
theorem f81_r0_ttftt (s0:ByteArray) (X:Ext) (call:Caller) (lf:Nat) (i0:Nat) (n13:Int)
  (h0:decide ((↑i0:Int) < (↑(ByteArray.size s0):Int))=true)
  (h1:keep [] (indexv Tryz.prog 9 (st s0) (i6 (↑i0:Int)))=some (AV.int IntKind.u8 n13,[]))
  (h2:decide (n13 < 97)=true)
  (h3:decide (n13 < 48)=false)
  (h4:decide (n13 > 57)=true)
  (h5:(n13 != 45)=true):vexec Tryz.prog X call lf 0 noFg (loopN Tryz.f58 0) (f81_F0 s0 i0)=some (Ex.ret,(f81_S1 s0 i0 n13)) :=
  around_sound (ans:=[(4,Ans.b true),(9,Ans.v (AV.int IntKind.u8 n13)),(13,Ans.b true),(22,Ans.b false),(28,Ans.b true),(36,Ans.b true)]) (by kernel_rfl) (ai h0 (ai h1 (ai h2 (ai h3 (ai h4 (ai h5 trivial))))))
theorem f81_plttftt (s0:ByteArray) (X:Ext) (call:Caller) (lf:Nat) (i0:Nat) (n13:Int)
  (h0:vexec Tryz.prog X call lf 0 noFg (Code.loop (loopN Tryz.f58 0)) (stOf 35 [] [(0,st s0),(2,bo false),(3,i6 0)] [])=some (Ex.ret,(f81_S1 s0 i0 n13))):vbody Tryz.prog X call lf noFg Tryz.f58 (codeOf Tryz.f58) [st s0] [] 0=some (bo false,[]) :=
  along_sound (ans:=[(4,Ans.l Ex.ret (f81_S1 s0 i0 n13))]) (by kernel_rfl) (ai h0 trivial)
theorem f81_s0_ttftf (s0:ByteArray) (X:Ext) (call:Caller) (lf:Nat) (i0:Nat) (n13:Int)
  (h0:decide ((↑i0:Int) < (↑(ByteArray.size s0):Int))=true)
  (h1:keep [] (indexv Tryz.prog 9 (st s0) (i6 (↑i0:Int)))=some (AV.int IntKind.u8 n13,[]))
  (h2:decide (n13 < 97)=true)
  (h3:decide (n13 < 48)=false)
  (h4:decide (n13 > 57)=true)
  (h5:(n13 != 45)=false)
  (e0:(↑(i0 + 1):Int)=w6 ((↑i0:Int) + 1)):∃ S1,vexec Tryz.prog X call lf 0 noFg (loopN Tryz.f58 0) (f81_F0 s0 i0)=some (Ex.normal,S1)∧forget f75_D0 S1=(f81_F0 s0 (i0 + 1)) :=
  ⟨stOf 35 [2] [(0,st s0),(3,i6 (w6 ((↑i0:Int) + 1))),(4,AV.int IntKind.u8 n13),(5,i6 (↑i0:Int)),(6,st s0),(7,i6 (↑(ByteArray.size s0):Int)),(8,bo true),(9,i6 (↑i0:Int)),(10,i6 (w6 ((↑i0:Int) + 1))),(11,st s0),(12,i6 (↑i0:Int)),(13,AV.int IntKind.u8 n13),(14,AV.int IntKind.u8 n13),(15,bo true),(16,bo true),(19,bo true),(20,bo true),(21,AV.int IntKind.u8 n13),(22,bo false),(23,bo false),(24,AV.int IntKind.u8 n13),(25,bo true),(26,bo true),(27,bo true),(28,bo true),(29,AV.int IntKind.u8 n13),(30,bo false),(31,bo false)] [],around_sound (ans:=[(4,Ans.b true),(9,Ans.v (AV.int IntKind.u8 n13)),(13,Ans.b true),(22,Ans.b false),(28,Ans.b true),(36,Ans.b false)]) (by kernel_rfl) (ai h0 (ai h1 (ai h2 (ai h3 (ai h4 (ai h5 trivial)))))),by unfold f81_F0; rw [e0]; show _=_; kernel_rfl⟩
theorem f81_s0_ttff (s0:ByteArray) (X:Ext) (call:Caller) (lf:Nat) (i0:Nat) (n13:Int)
  (h0:decide ((↑i0:Int) < (↑(ByteArray.size s0):Int))=true)
  (h1:keep [] (indexv Tryz.prog 9 (st s0) (i6 (↑i0:Int)))=some (AV.int IntKind.u8 n13,[]))
  (h2:decide (n13 < 97)=true)
  (h3:decide (n13 < 48)=false)
  (h4:decide (n13 > 57)=false)
  (e0:(↑(i0 + 1):Int)=w6 ((↑i0:Int) + 1)):∃ S1,vexec Tryz.prog X call lf 0 noFg (loopN Tryz.f58 0) (f81_F0 s0 i0)=some (Ex.normal,S1)∧forget f75_D0 S1=(f81_F0 s0 (i0 + 1)) :=
  ⟨stOf 35 [2] [(0,st s0),(3,i6 (w6 ((↑i0:Int) + 1))),(4,AV.int IntKind.u8 n13),(5,i6 (↑i0:Int)),(6,st s0),(7,i6 (↑(ByteArray.size s0):Int)),(8,bo true),(9,i6 (↑i0:Int)),(10,i6 (w6 ((↑i0:Int) + 1))),(11,st s0),(12,i6 (↑i0:Int)),(13,AV.int IntKind.u8 n13),(14,AV.int IntKind.u8 n13),(15,bo true),(16,bo true),(19,bo true),(20,bo true),(21,AV.int IntKind.u8 n13),(22,bo false),(23,bo false),(24,AV.int IntKind.u8 n13),(25,bo false),(26,bo false),(27,bo false),(28,bo false),(31,bo false)] [],around_sound (ans:=[(4,Ans.b true),(9,Ans.v (AV.int IntKind.u8 n13)),(13,Ans.b true),(22,Ans.b false),(28,Ans.b false)]) (by kernel_rfl) (ai h0 (ai h1 (ai h2 (ai h3 (ai h4 trivial))))),by unfold f81_F0; rw [e0]; show _=_; kernel_rfl⟩
def f81_S2 (s0:ByteArray) (i0:Nat) (n13:Int):St :=
  stOf 35 [9,10] [(0,st s0),(2,bo false),(3,i6 (↑i0:Int)),(4,AV.int IntKind.u8 n13),(5,i6 (↑i0:Int)),(6,st s0),(7,i6 (↑(ByteArray.size s0):Int)),(8,bo true),(11,st s0),(12,i6 (↑i0:Int)),(13,AV.int IntKind.u8 n13),(14,AV.int IntKind.u8 n13),(15,bo false),(16,bo false),(17,AV.int IntKind.u8 n13),(18,bo true),(19,bo true),(20,bo true),(21,AV.int IntKind.u8 n13),(22,bo true),(23,bo true),(26,bo true),(27,bo true),(28,bo true),(29,AV.int IntKind.u8 n13),(30,bo true),(31,bo true)] []
theorem f81_r0_tfttt (s0:ByteArray) (X:Ext) (call:Caller) (lf:Nat) (i0:Nat) (n13:Int)
  (h0:decide ((↑i0:Int) < (↑(ByteArray.size s0):Int))=true)
  (h1:keep [] (indexv Tryz.prog 9 (st s0) (i6 (↑i0:Int)))=some (AV.int IntKind.u8 n13,[]))
  (h2:decide (n13 < 97)=false)
  (h3:decide (n13 > 122)=true)
  (h4:decide (n13 < 48)=true)
  (h5:(n13 != 45)=true):vexec Tryz.prog X call lf 0 noFg (loopN Tryz.f58 0) (f81_F0 s0 i0)=some (Ex.ret,(f81_S2 s0 i0 n13)) :=
  around_sound (ans:=[(4,Ans.b true),(9,Ans.v (AV.int IntKind.u8 n13)),(13,Ans.b false),(18,Ans.b true),(24,Ans.b true),(36,Ans.b true)]) (by kernel_rfl) (ai h0 (ai h1 (ai h2 (ai h3 (ai h4 (ai h5 trivial))))))
theorem f81_pltfttt (s0:ByteArray) (X:Ext) (call:Caller) (lf:Nat) (i0:Nat) (n13:Int)
  (h0:vexec Tryz.prog X call lf 0 noFg (Code.loop (loopN Tryz.f58 0)) (stOf 35 [] [(0,st s0),(2,bo false),(3,i6 0)] [])=some (Ex.ret,(f81_S2 s0 i0 n13))):vbody Tryz.prog X call lf noFg Tryz.f58 (codeOf Tryz.f58) [st s0] [] 0=some (bo false,[]) :=
  along_sound (ans:=[(4,Ans.l Ex.ret (f81_S2 s0 i0 n13))]) (by kernel_rfl) (ai h0 trivial)
theorem f81_s0_tfttf (s0:ByteArray) (X:Ext) (call:Caller) (lf:Nat) (i0:Nat) (n13:Int)
  (h0:decide ((↑i0:Int) < (↑(ByteArray.size s0):Int))=true)
  (h1:keep [] (indexv Tryz.prog 9 (st s0) (i6 (↑i0:Int)))=some (AV.int IntKind.u8 n13,[]))
  (h2:decide (n13 < 97)=false)
  (h3:decide (n13 > 122)=true)
  (h4:decide (n13 < 48)=true)
  (h5:(n13 != 45)=false)
  (e0:(↑(i0 + 1):Int)=w6 ((↑i0:Int) + 1)):∃ S1,vexec Tryz.prog X call lf 0 noFg (loopN Tryz.f58 0) (f81_F0 s0 i0)=some (Ex.normal,S1)∧forget f75_D0 S1=(f81_F0 s0 (i0 + 1)) :=
  ⟨stOf 35 [2] [(0,st s0),(3,i6 (w6 ((↑i0:Int) + 1))),(4,AV.int IntKind.u8 n13),(5,i6 (↑i0:Int)),(6,st s0),(7,i6 (↑(ByteArray.size s0):Int)),(8,bo true),(9,i6 (↑i0:Int)),(10,i6 (w6 ((↑i0:Int) + 1))),(11,st s0),(12,i6 (↑i0:Int)),(13,AV.int IntKind.u8 n13),(14,AV.int IntKind.u8 n13),(15,bo false),(16,bo false),(17,AV.int IntKind.u8 n13),(18,bo true),(19,bo true),(20,bo true),(21,AV.int IntKind.u8 n13),(22,bo true),(23,bo true),(26,bo true),(27,bo true),(28,bo true),(29,AV.int IntKind.u8 n13),(30,bo false),(31,bo false)] [],around_sound (ans:=[(4,Ans.b true),(9,Ans.v (AV.int IntKind.u8 n13)),(13,Ans.b false),(18,Ans.b true),(24,Ans.b true),(36,Ans.b false)]) (by kernel_rfl) (ai h0 (ai h1 (ai h2 (ai h3 (ai h4 (ai h5 trivial)))))),by unfold f81_F0; rw [e0]; show _=_; kernel_rfl⟩
def f81_S3 (s0:ByteArray) (i0:Nat) (n13:Int):St :=
  stOf 35 [9,10] [(0,st s0),(2,bo false),(3,i6 (↑i0:Int)),(4,AV.int IntKind.u8 n13),(5,i6 (↑i0:Int)),(6,st s0),(7,i6 (↑(ByteArray.size s0):Int)),(8,bo true),(11,st s0),(12,i6 (↑i0:Int)),(13,AV.int IntKind.u8 n13),(14,AV.int IntKind.u8 n13),(15,bo false),(16,bo false),(17,AV.int IntKind.u8 n13),(18,bo true),(19,bo true),(20,bo true),(21,AV.int IntKind.u8 n13),(22,bo false),(23,bo false),(24,AV.int IntKind.u8 n13),(25,bo true),(26,bo true),(27,bo true),(28,bo true),(29,AV.int IntKind.u8 n13),(30,bo true),(31,bo true)] []
theorem f81_r0_tftftt (s0:ByteArray) (X:Ext) (call:Caller) (lf:Nat) (i0:Nat) (n13:Int)
  (h0:decide ((↑i0:Int) < (↑(ByteArray.size s0):Int))=true)
  (h1:keep [] (indexv Tryz.prog 9 (st s0) (i6 (↑i0:Int)))=some (AV.int IntKind.u8 n13,[]))
  (h2:decide (n13 < 97)=false)
  (h3:decide (n13 > 122)=true)
  (h4:decide (n13 < 48)=false)
  (h5:decide (n13 > 57)=true)
  (h6:(n13 != 45)=true):vexec Tryz.prog X call lf 0 noFg (loopN Tryz.f58 0) (f81_F0 s0 i0)=some (Ex.ret,(f81_S3 s0 i0 n13)) :=
  around_sound (ans:=[(4,Ans.b true),(9,Ans.v (AV.int IntKind.u8 n13)),(13,Ans.b false),(18,Ans.b true),(24,Ans.b false),(30,Ans.b true),(38,Ans.b true)]) (by kernel_rfl) (ai h0 (ai h1 (ai h2 (ai h3 (ai h4 (ai h5 (ai h6 trivial)))))))
theorem f81_pltftftt (s0:ByteArray) (X:Ext) (call:Caller) (lf:Nat) (i0:Nat) (n13:Int)
  (h0:vexec Tryz.prog X call lf 0 noFg (Code.loop (loopN Tryz.f58 0)) (stOf 35 [] [(0,st s0),(2,bo false),(3,i6 0)] [])=some (Ex.ret,(f81_S3 s0 i0 n13))):vbody Tryz.prog X call lf noFg Tryz.f58 (codeOf Tryz.f58) [st s0] [] 0=some (bo false,[]) :=
  along_sound (ans:=[(4,Ans.l Ex.ret (f81_S3 s0 i0 n13))]) (by kernel_rfl) (ai h0 trivial)
theorem f81_s0_tftftf (s0:ByteArray) (X:Ext) (call:Caller) (lf:Nat) (i0:Nat) (n13:Int)
  (h0:decide ((↑i0:Int) < (↑(ByteArray.size s0):Int))=true)
  (h1:keep [] (indexv Tryz.prog 9 (st s0) (i6 (↑i0:Int)))=some (AV.int IntKind.u8 n13,[]))
  (h2:decide (n13 < 97)=false)
  (h3:decide (n13 > 122)=true)
  (h4:decide (n13 < 48)=false)
  (h5:decide (n13 > 57)=true)
  (h6:(n13 != 45)=false)
  (e0:(↑(i0 + 1):Int)=w6 ((↑i0:Int) + 1)):∃ S1,vexec Tryz.prog X call lf 0 noFg (loopN Tryz.f58 0) (f81_F0 s0 i0)=some (Ex.normal,S1)∧forget f75_D0 S1=(f81_F0 s0 (i0 + 1)) :=
  ⟨stOf 35 [2] [(0,st s0),(3,i6 (w6 ((↑i0:Int) + 1))),(4,AV.int IntKind.u8 n13),(5,i6 (↑i0:Int)),(6,st s0),(7,i6 (↑(ByteArray.size s0):Int)),(8,bo true),(9,i6 (↑i0:Int)),(10,i6 (w6 ((↑i0:Int) + 1))),(11,st s0),(12,i6 (↑i0:Int)),(13,AV.int IntKind.u8 n13),(14,AV.int IntKind.u8 n13),(15,bo false),(16,bo false),(17,AV.int IntKind.u8 n13),(18,bo true),(19,bo true),(20,bo true),(21,AV.int IntKind.u8 n13),(22,bo false),(23,bo false),(24,AV.int IntKind.u8 n13),(25,bo true),(26,bo true),(27,bo true),(28,bo true),(29,AV.int IntKind.u8 n13),(30,bo false),(31,bo false)] [],around_sound (ans:=[(4,Ans.b true),(9,Ans.v (AV.int IntKind.u8 n13)),(13,Ans.b false),(18,Ans.b true),(24,Ans.b false),(30,Ans.b true),(38,Ans.b false)]) (by kernel_rfl) (ai h0 (ai h1 (ai h2 (ai h3 (ai h4 (ai h5 (ai h6 trivial))))))),by unfold f81_F0; rw [e0]; show _=_; kernel_rfl⟩
theorem f81_s0_tftff (s0:ByteArray) (X:Ext) (call:Caller) (lf:Nat) (i0:Nat) (n13:Int)
  (h0:decide ((↑i0:Int) < (↑(ByteArray.size s0):Int))=true)
  (h1:keep [] (indexv Tryz.prog 9 (st s0) (i6 (↑i0:Int)))=some (AV.int IntKind.u8 n13,[]))
  (h2:decide (n13 < 97)=false)
  (h3:decide (n13 > 122)=true)
  (h4:decide (n13 < 48)=false)
  (h5:decide (n13 > 57)=false)
  (e0:(↑(i0 + 1):Int)=w6 ((↑i0:Int) + 1)):∃ S1,vexec Tryz.prog X call lf 0 noFg (loopN Tryz.f58 0) (f81_F0 s0 i0)=some (Ex.normal,S1)∧forget f75_D0 S1=(f81_F0 s0 (i0 + 1)) :=
  ⟨stOf 35 [2] [(0,st s0),(3,i6 (w6 ((↑i0:Int) + 1))),(4,AV.int IntKind.u8 n13),(5,i6 (↑i0:Int)),(6,st s0),(7,i6 (↑(ByteArray.size s0):Int)),(8,bo true),(9,i6 (↑i0:Int)),(10,i6 (w6 ((↑i0:Int) + 1))),(11,st s0),(12,i6 (↑i0:Int)),(13,AV.int IntKind.u8 n13),(14,AV.int IntKind.u8 n13),(15,bo false),(16,bo false),(17,AV.int IntKind.u8 n13),(18,bo true),(19,bo true),(20,bo true),(21,AV.int IntKind.u8 n13),(22,bo false),(23,bo false),(24,AV.int IntKind.u8 n13),(25,bo false),(26,bo false),(27,bo false),(28,bo false),(31,bo false)] [],around_sound (ans:=[(4,Ans.b true),(9,Ans.v (AV.int IntKind.u8 n13)),(13,Ans.b false),(18,Ans.b true),(24,Ans.b false),(30,Ans.b false)]) (by kernel_rfl) (ai h0 (ai h1 (ai h2 (ai h3 (ai h4 (ai h5 trivial)))))),by unfold f81_F0; rw [e0]; show _=_; kernel_rfl⟩
theorem f81_s0_tff (s0:ByteArray) (X:Ext) (call:Caller) (lf:Nat) (i0:Nat) (n13:Int)
  (h0:decide ((↑i0:Int) < (↑(ByteArray.size s0):Int))=true)
  (h1:keep [] (indexv Tryz.prog 9 (st s0) (i6 (↑i0:Int)))=some (AV.int IntKind.u8 n13,[]))
  (h2:decide (n13 < 97)=false)
  (h3:decide (n13 > 122)=false)
  (e0:(↑(i0 + 1):Int)=w6 ((↑i0:Int) + 1)):∃ S1,vexec Tryz.prog X call lf 0 noFg (loopN Tryz.f58 0) (f81_F0 s0 i0)=some (Ex.normal,S1)∧forget f75_D0 S1=(f81_F0 s0 (i0 + 1)) :=
  ⟨stOf 35 [2] [(0,st s0),(3,i6 (w6 ((↑i0:Int) + 1))),(4,AV.int IntKind.u8 n13),(5,i6 (↑i0:Int)),(6,st s0),(7,i6 (↑(ByteArray.size s0):Int)),(8,bo true),(9,i6 (↑i0:Int)),(10,i6 (w6 ((↑i0:Int) + 1))),(11,st s0),(12,i6 (↑i0:Int)),(13,AV.int IntKind.u8 n13),(14,AV.int IntKind.u8 n13),(15,bo false),(16,bo false),(17,AV.int IntKind.u8 n13),(18,bo false),(19,bo false),(20,bo false),(27,bo false),(28,bo false),(31,bo false)] [],around_sound (ans:=[(4,Ans.b true),(9,Ans.v (AV.int IntKind.u8 n13)),(13,Ans.b false),(18,Ans.b false)]) (by kernel_rfl) (ai h0 (ai h1 (ai h2 (ai h3 trivial)))),by unfold f81_F0; rw [e0]; show _=_; kernel_rfl⟩
def f81_S4 (s0:ByteArray) (i0:Nat):St :=
  stOf 35 [2,4,9,10,11,12,13,14,15,16,17,18,19,20,21,22,23,24,25,26,27,28,29,30,31] [(0,st s0),(3,i6 (↑i0:Int)),(5,i6 (↑i0:Int)),(6,st s0),(7,i6 (↑(ByteArray.size s0):Int)),(8,bo false)] []
theorem f81_r0_f (s0:ByteArray) (X:Ext) (call:Caller) (lf:Nat) (i0:Nat)
  (h0:decide ((↑i0:Int) < (↑(ByteArray.size s0):Int))=false):vexec Tryz.prog X call lf 0 noFg (loopN Tryz.f58 0) (f81_F0 s0 i0)=some (Ex.exit 0,(f81_S4 s0 i0)) :=
  around_sound (ans:=[(4,Ans.b false)]) (by kernel_rfl) (ai h0 trivial)
theorem f81_plft (s0:ByteArray) (X:Ext) (call:Caller) (lf:Nat) (i0:Nat)
  (h0:vexec Tryz.prog X call lf 0 noFg (Code.loop (loopN Tryz.f58 0)) (stOf 35 [] [(0,st s0),(2,bo false),(3,i6 0)] [])=some (Ex.exit 0,(f81_S4 s0 i0)))
  (h1:decide ((↑(ByteArray.size s0):Int) > 0)=true):vbody Tryz.prog X call lf noFg Tryz.f58 (codeOf Tryz.f58) [st s0] [] 0=some (bo true,[]) :=
  along_sound (ans:=[(4,Ans.l (Ex.exit 0) (f81_S4 s0 i0)),(8,Ans.b true)]) (by kernel_rfl) (ai h0 (ai h1 trivial))
theorem f81_plff (s0:ByteArray) (X:Ext) (call:Caller) (lf:Nat) (i0:Nat)
  (h0:vexec Tryz.prog X call lf 0 noFg (Code.loop (loopN Tryz.f58 0)) (stOf 35 [] [(0,st s0),(2,bo false),(3,i6 0)] [])=some (Ex.exit 0,(f81_S4 s0 i0)))
  (h1:decide ((↑(ByteArray.size s0):Int) > 0)=false):vbody Tryz.prog X call lf noFg Tryz.f58 (codeOf Tryz.f58) [st s0] [] 0=some (bo false,[]) :=
  along_sound (ans:=[(4,Ans.l (Ex.exit 0) (f81_S4 s0 i0)),(8,Ans.b false)]) (by kernel_rfl) (ai h0 (ai h1 trivial))
def f81_o0 (s0:ByteArray) (i0:Nat) (n13:Int):Nat :=
  (match decide ((↑i0:Int) < (↑(ByteArray.size s0):Int)) with
  | true => (match decide (n13 < 97) with
    | true => (match decide (n13 < 48) with
      | true => (match (n13 != 45) with
        | true=>1
        | false=>0)
      | false => (match decide (n13 > 57) with
        | true => (match (n13 != 45) with
          | true=>2
          | false=>0)
        | false=>0))
    | false => (match decide (n13 > 122) with
      | true => (match decide (n13 < 48) with
        | true => (match (n13 != 45) with
          | true=>3
          | false=>0)
        | false => (match decide (n13 > 57) with
          | true => (match (n13 != 45) with
            | true=>4
            | false=>0)
          | false=>0))
      | false=>0))
  | false=>5)
theorem f81_B0 (s0:ByteArray) (X:Ext) (call:Caller) (lf:Nat) (i0:Nat) (n13:Int)
  (g0:decide ((↑i0:Int) < (↑(ByteArray.size s0):Int))=true→keep [] (indexv Tryz.prog 9 (st s0) (i6 (↑i0:Int)))=some (AV.int IntKind.u8 n13,[]))
  (e0 : decide ((↑i0 : Int) < (↑(ByteArray.size s0) : Int)) = true → (↑(i0 + 1) : Int) = w6 ((↑i0 : Int) + 1)) :
    (f81_o0 s0 i0 n13=0→∃ S1,vexec Tryz.prog X call lf 0 noFg (loopN Tryz.f58 0) (f81_F0 s0 i0)=some (Ex.normal,S1)∧forget f75_D0 S1=(f81_F0 s0 (i0 + 1)))∧(f81_o0 s0 i0 n13=1→vexec Tryz.prog X call lf 0 noFg (loopN Tryz.f58 0) (f81_F0 s0 i0)=some (Ex.ret,(f81_S0 s0 i0 n13)))∧(f81_o0 s0 i0 n13=2→vexec Tryz.prog X call lf 0 noFg (loopN Tryz.f58 0) (f81_F0 s0 i0)=some (Ex.ret,(f81_S1 s0 i0 n13)))∧(f81_o0 s0 i0 n13=3→vexec Tryz.prog X call lf 0 noFg (loopN Tryz.f58 0) (f81_F0 s0 i0)=some (Ex.ret,(f81_S2 s0 i0 n13)))∧(f81_o0 s0 i0 n13=4→vexec Tryz.prog X call lf 0 noFg (loopN Tryz.f58 0) (f81_F0 s0 i0)=some (Ex.ret,(f81_S3 s0 i0 n13)))∧(f81_o0 s0 i0 n13=5→vexec Tryz.prog X call lf 0 noFg (loopN Tryz.f58 0) (f81_F0 s0 i0)=some (Ex.exit 0,(f81_S4 s0 i0))):=by
  unfold f81_o0
  cases c0:decide ((↑i0:Int) < (↑(ByteArray.size s0):Int)) with
  | true =>
    cases c1:decide (n13 < 97) with
    | true =>
      cases c2:decide (n13 < 48) with
      | true =>
        cases c3:(n13 != 45) with
        | true =>
          exact ⟨fun h=>nq h,fun _=>f81_r0_tttt s0 X call lf i0 n13 c0 (g0 c0) c1 c2 c3,fun h=>nq h,fun h=>nq h,fun h=>nq h,fun h=>nq h⟩
        | false =>
          exact ⟨fun _=>f81_s0_tttf s0 X call lf i0 n13 c0 (g0 c0) c1 c2 c3 (e0 c0),fun h=>nq h,fun h=>nq h,fun h=>nq h,fun h=>nq h,fun h=>nq h⟩
      | false =>
        cases c3:decide (n13 > 57) with
        | true =>
          cases c4:(n13 != 45) with
          | true =>
            exact ⟨fun h=>nq h,fun h=>nq h,fun _=>f81_r0_ttftt s0 X call lf i0 n13 c0 (g0 c0) c1 c2 c3 c4,fun h=>nq h,fun h=>nq h,fun h=>nq h⟩
          | false =>
            exact ⟨fun _=>f81_s0_ttftf s0 X call lf i0 n13 c0 (g0 c0) c1 c2 c3 c4 (e0 c0),fun h=>nq h,fun h=>nq h,fun h=>nq h,fun h=>nq h,fun h=>nq h⟩
        | false =>
          exact ⟨fun _=>f81_s0_ttff s0 X call lf i0 n13 c0 (g0 c0) c1 c2 c3 (e0 c0),fun h=>nq h,fun h=>nq h,fun h=>nq h,fun h=>nq h,fun h=>nq h⟩
    | false =>
      cases c2:decide (n13 > 122) with
      | true =>
        cases c3:decide (n13 < 48) with
        | true =>
          cases c4:(n13 != 45) with
          | true =>
            exact ⟨fun h=>nq h,fun h=>nq h,fun h=>nq h,fun _=>f81_r0_tfttt s0 X call lf i0 n13 c0 (g0 c0) c1 c2 c3 c4,fun h=>nq h,fun h=>nq h⟩
          | false =>
            exact ⟨fun _=>f81_s0_tfttf s0 X call lf i0 n13 c0 (g0 c0) c1 c2 c3 c4 (e0 c0),fun h=>nq h,fun h=>nq h,fun h=>nq h,fun h=>nq h,fun h=>nq h⟩
        | false =>
          cases c4:decide (n13 > 57) with
          | true =>
            cases c5:(n13 != 45) with
            | true =>
              exact ⟨fun h=>nq h,fun h=>nq h,fun h=>nq h,fun h=>nq h,fun _=>f81_r0_tftftt s0 X call lf i0 n13 c0 (g0 c0) c1 c2 c3 c4 c5,fun h=>nq h⟩
            | false =>
              exact ⟨fun _=>f81_s0_tftftf s0 X call lf i0 n13 c0 (g0 c0) c1 c2 c3 c4 c5 (e0 c0),fun h=>nq h,fun h=>nq h,fun h=>nq h,fun h=>nq h,fun h=>nq h⟩
          | false =>
            exact ⟨fun _=>f81_s0_tftff s0 X call lf i0 n13 c0 (g0 c0) c1 c2 c3 c4 (e0 c0),fun h=>nq h,fun h=>nq h,fun h=>nq h,fun h=>nq h,fun h=>nq h⟩
      | false =>
        exact ⟨fun _=>f81_s0_tff s0 X call lf i0 n13 c0 (g0 c0) c1 c2 (e0 c0),fun h=>nq h,fun h=>nq h,fun h=>nq h,fun h=>nq h,fun h=>nq h⟩
  | false =>
    exact ⟨fun h=>nq h,fun h=>nq h,fun h=>nq h,fun h=>nq h,fun h=>nq h,fun _=>f81_r0_f s0 X call lf i0 c0⟩
theorem f81_X0 (s0:ByteArray) (X:Ext) (call:Caller) (lf:Nat) (i0:Nat) (n13:Int)
  (g0 : decide ((↑i0 : Int) < (↑(ByteArray.size s0) : Int)) = true → keep [] (indexv Tryz.prog 9 (st s0) (i6 (↑i0 : Int))) = some (AV.int IntKind.u8 n13, [])) :
    (f81_o0 s0 i0 n13=1→vexec Tryz.prog X call lf 0 noFg (loopN Tryz.f58 0) (f81_F0 s0 i0)=some (Ex.ret,(f81_S0 s0 i0 n13)))∧(f81_o0 s0 i0 n13=2→vexec Tryz.prog X call lf 0 noFg (loopN Tryz.f58 0) (f81_F0 s0 i0)=some (Ex.ret,(f81_S1 s0 i0 n13)))∧(f81_o0 s0 i0 n13=3→vexec Tryz.prog X call lf 0 noFg (loopN Tryz.f58 0) (f81_F0 s0 i0)=some (Ex.ret,(f81_S2 s0 i0 n13)))∧(f81_o0 s0 i0 n13=4→vexec Tryz.prog X call lf 0 noFg (loopN Tryz.f58 0) (f81_F0 s0 i0)=some (Ex.ret,(f81_S3 s0 i0 n13)))∧(f81_o0 s0 i0 n13=5→vexec Tryz.prog X call lf 0 noFg (loopN Tryz.f58 0) (f81_F0 s0 i0)=some (Ex.exit 0,(f81_S4 s0 i0))):=by
  unfold f81_o0
  cases c0:decide ((↑i0:Int) < (↑(ByteArray.size s0):Int)) with
  | true =>
    cases c1:decide (n13 < 97) with
    | true =>
      cases c2:decide (n13 < 48) with
      | true =>
        cases c3:(n13 != 45) with
        | true =>
          exact ⟨fun _=>f81_r0_tttt s0 X call lf i0 n13 c0 (g0 c0) c1 c2 c3,fun h=>nq h,fun h=>nq h,fun h=>nq h,fun h=>nq h⟩
        | false =>
          exact ⟨fun h=>nq h,fun h=>nq h,fun h=>nq h,fun h=>nq h,fun h=>nq h⟩
      | false =>
        cases c3:decide (n13 > 57) with
        | true =>
          cases c4:(n13 != 45) with
          | true =>
            exact ⟨fun h=>nq h,fun _=>f81_r0_ttftt s0 X call lf i0 n13 c0 (g0 c0) c1 c2 c3 c4,fun h=>nq h,fun h=>nq h,fun h=>nq h⟩
          | false =>
            exact ⟨fun h=>nq h,fun h=>nq h,fun h=>nq h,fun h=>nq h,fun h=>nq h⟩
        | false =>
          exact ⟨fun h=>nq h,fun h=>nq h,fun h=>nq h,fun h=>nq h,fun h=>nq h⟩
    | false =>
      cases c2:decide (n13 > 122) with
      | true =>
        cases c3:decide (n13 < 48) with
        | true =>
          cases c4:(n13 != 45) with
          | true =>
            exact ⟨fun h=>nq h,fun h=>nq h,fun _=>f81_r0_tfttt s0 X call lf i0 n13 c0 (g0 c0) c1 c2 c3 c4,fun h=>nq h,fun h=>nq h⟩
          | false =>
            exact ⟨fun h=>nq h,fun h=>nq h,fun h=>nq h,fun h=>nq h,fun h=>nq h⟩
        | false =>
          cases c4:decide (n13 > 57) with
          | true =>
            cases c5:(n13 != 45) with
            | true =>
              exact ⟨fun h=>nq h,fun h=>nq h,fun h=>nq h,fun _=>f81_r0_tftftt s0 X call lf i0 n13 c0 (g0 c0) c1 c2 c3 c4 c5,fun h=>nq h⟩
            | false =>
              exact ⟨fun h=>nq h,fun h=>nq h,fun h=>nq h,fun h=>nq h,fun h=>nq h⟩
          | false =>
            exact ⟨fun h=>nq h,fun h=>nq h,fun h=>nq h,fun h=>nq h,fun h=>nq h⟩
      | false =>
        exact ⟨fun h=>nq h,fun h=>nq h,fun h=>nq h,fun h=>nq h,fun h=>nq h⟩
  | false =>
    exact ⟨fun h=>nq h,fun h=>nq h,fun h=>nq h,fun h=>nq h,fun _=>f81_r0_f s0 X call lf i0 c0⟩
theorem f81_M (s0:ByteArray) (X:Ext) (call:Caller) (lf:Nat) (n:Nat) (n13:Nat→Int)
  (hn:n < lf)
  (g0:∀ i0,i0 ≤ n→decide ((↑i0:Int) < (↑(ByteArray.size s0):Int))=true→keep [] (indexv Tryz.prog 9 (st s0) (i6 (↑i0:Int)))=some (AV.int IntKind.u8 (n13 i0),[]))
  (e0:∀ i0,i0 < n→decide ((↑i0:Int) < (↑(ByteArray.size s0):Int))=true→(↑(i0 + 1):Int)=w6 ((↑i0:Int) + 1))
  (hz : ∀ j, j < n → f81_o0 s0 j (n13 j) = 0) :
    (f81_o0 s0 n (n13 n)=1→vbody Tryz.prog X call lf noFg Tryz.f58 (codeOf Tryz.f58) [st s0] [] 0=some (bo false,[]))∧(f81_o0 s0 n (n13 n)=2→vbody Tryz.prog X call lf noFg Tryz.f58 (codeOf Tryz.f58) [st s0] [] 0=some (bo false,[]))∧(f81_o0 s0 n (n13 n)=3→vbody Tryz.prog X call lf noFg Tryz.f58 (codeOf Tryz.f58) [st s0] [] 0=some (bo false,[]))∧(f81_o0 s0 n (n13 n)=4→vbody Tryz.prog X call lf noFg Tryz.f58 (codeOf Tryz.f58) [st s0] [] 0=some (bo false,[]))∧(f81_o0 s0 n (n13 n)=5→decide ((↑(ByteArray.size s0):Int) > 0)=true→vbody Tryz.prog X call lf noFg Tryz.f58 (codeOf Tryz.f58) [st s0] [] 0=some (bo true,[]))∧(f81_o0 s0 n (n13 n)=5→decide ((↑(ByteArray.size s0):Int) > 0)=false→vbody Tryz.prog X call lf noFg Tryz.f58 (codeOf Tryz.f58) [st s0] [] 0=some (bo false,[])):=by
  have key:∀ j,j < n→_:=fun j hj=>(f81_B0 s0 X call lf j (n13 j) (g0 j (Nat.le_of_lt hj)) (e0 j hj)).1 (hz j hj)
  have kn:=f81_X0 s0 X call lf n (n13 n) (g0 n (Nat.le_refl n))
  exact ⟨fun hk => f81_pltttt s0 X call lf n (n13 n) (f81_L0 s0 X call lf n _ _ hn key (kn.1 hk) (by simp)),
    fun hk=>f81_plttftt s0 X call lf n (n13 n) (f81_L0 s0 X call lf n _ _ hn key (kn.2.1 hk) (by simp)),
    fun hk=>f81_pltfttt s0 X call lf n (n13 n) (f81_L0 s0 X call lf n _ _ hn key (kn.2.2.1 hk) (by simp)),
    fun hk=>f81_pltftftt s0 X call lf n (n13 n) (f81_L0 s0 X call lf n _ _ hn key (kn.2.2.2.1 hk) (by simp)),
    fun hk q0=>f81_plft s0 X call lf n (f81_L0 s0 X call lf n _ _ hn key (kn.2.2.2.2 hk) (by simp)) q0,
    fun hk q0=>f81_plff s0 X call lf n (f81_L0 s0 X call lf n _ _ hn key (kn.2.2.2.2 hk) (by simp)) q0⟩
end Go.Proofs.Lex
end
/- Lexicon: what a name is; the four functions that say so. -/
section
open Go Go.Vm Go.Proofs
namespace Go.Proofs.Lex
theorem first_fail {p:Nat→Prop}:∀ (n:Nat),(∀ i,i < n→p i) ∨ ∃ k,k < n ∧ ¬ p k∧∀ i,i < k→p i
  | 0 => .inl fun i h=>absurd h (by omega)
  | n + 1 => by
    rcases first_fail (p:=p) n with h | ⟨k,h1,h2,h3⟩
    · by_cases hp : p n
      · refine .inl fun i hi => ?_
        by_cases e:i=n
        · subst e; exact hp
        · exact h i (by omega)
      · exact .inr ⟨n,by omega,hp,h⟩
    · exact .inr ⟨k,by omega,h2,h3⟩
def empB (s:ByteArray):Bool:=s.toList == (ByteArray.mk #[]).toList
/-- All bytes fit. -/
def allB (p:Nat→Bool) (s:ByteArray):Bool:=(List.range s.size).all fun i=>p (byteN s i)
theorem allB_true {p:Nat→Bool} {s:ByteArray}:allB p s=true ↔ ∀ i,i < s.size→p (byteN s i)=true:=by
  simp [allB,List.all_eq_true]
theorem allB_false {p:Nat→Bool} {s:ByteArray} {k:Nat} (hk:k < s.size) (h : ¬ p (byteN s k)=true):allB p s=false:=by
  rw [Bool.eq_false_iff]
  intro h2
  exact h (allB_true.1 h2 k hk)
def pL (c:Nat):Bool:=decide (97 ≤ c∧c ≤ 122 ∨ 48 ≤ c∧c ≤ 57 ∨ c=45 ∨ c=95)
def pF (c:Nat):Bool:=decide (97 ≤ c∧c ≤ 122 ∨ 48 ≤ c∧c ≤ 57 ∨ c=45)
/-- A name of a lexicon; of a feature. -/
def nameL (s:ByteArray):Bool:=allB pL s && !empB s
def nameF (s:ByteArray):Bool:=allB pF s && !empB s
theorem emp_iff {s:ByteArray}:empB s=true ↔ s.size=0:=by
  unfold empB
  rw [beq_iff_eq,ByteArray.toList_eq,ByteArray.toList_eq]
  simp only [ByteArray.size]
  cases s with
  | mk d=>simp [List.eq_nil_iff_length_eq_zero]
section
variable {s:ByteArray} {X:Ext} {call:Caller} {lf:Nat}
theorem o43 (s:ByteArray) (i c:Nat):(i < s.size→pL c=true→f43_o0 s i c=0)∧(i < s.size → ¬ pL c=true→f43_o0 s i c=1 ∨ f43_o0 s i c=2 ∨ f43_o0 s i c=3 ∨ f43_o0 s i c=4)∧(¬ i < s.size→f43_o0 s i c=5):=by
  unfold f43_o0 pL
  simp only [decide_eq_true_eq]
  refine ⟨fun h1 h2 => ?_,fun h1 h2 => ?_,fun h1 => ?_⟩
  all_goals (repeat' split)
  all_goals simp_all
  all_goals omega
theorem name43 (hs:s.size ≤ big) (hlf:s.size < lf):vbody Tryz.prog X call lf noFg Tryz.f15 (codeOf Tryz.f15) [st s] [] 0=some (bo (nameL s),[]):=by
  have hb:s.size ≤ 140737488355328:=hs
  rcases first_fail (p:=fun i=>pL (byteN s i)=true) s.size with hall | ⟨k,hk,hbad,hbef⟩
  · have M := f43_M s X call lf s.size (fun i => byteN s i) hlf (fun i _ h => at_byte (by simpa using h)) (fun i h _ => up h hs) (fun j hj => (o43 s j _).1 hj (hall j hj))
    have ho:=(o43 s s.size (byteN s s.size)).2.2 (by omega)
    unfold nameL
    rw [allB_true.2 hall,Bool.true_and]
    cases he:(!empB s) with
    | true=>exact M.2.2.2.2.1 ho he
    | false=>exact M.2.2.2.2.2 ho he
  · have M := f43_M s X call lf k (fun i => byteN s i) (by omega) (fun i _ h => at_byte (by simpa using h)) (fun i h _ => up h (by omega)) (fun j hj => (o43 s j _).1 (by omega) (hbef j hj))
    unfold nameL
    rw [allB_false hk hbad,Bool.false_and]
    rcases (o43 s k (byteN s k)).2.1 hk hbad with h | h | h | h
    · exact M.1 h
    · exact M.2.1 h
    · exact M.2.2.1 h
    · exact M.2.2.2.1 h
theorem o49 (s:ByteArray) (i c:Nat):(i < s.size→pL c=true→f49_o0 s i c=0)∧(i < s.size → ¬ pL c=true→f49_o0 s i c=1 ∨ f49_o0 s i c=2 ∨ f49_o0 s i c=3 ∨ f49_o0 s i c=4)∧(¬ i < s.size→f49_o0 s i c=5):=by
  unfold f49_o0 pL
  simp only [decide_eq_true_eq]
  refine ⟨fun h1 h2 => ?_,fun h1 h2 => ?_,fun h1 => ?_⟩
  all_goals (repeat' split)
  all_goals simp_all
  all_goals omega
theorem name49 (hs:s.size ≤ big) (hlf:s.size < lf):vbody Tryz.prog X call lf noFg Tryz.f41 (codeOf Tryz.f41) [st s] [] 0=some (bo (nameL s),[]):=by
  have hb:s.size ≤ 140737488355328:=hs
  rcases first_fail (p:=fun i=>pL (byteN s i)=true) s.size with hall | ⟨k,hk,hbad,hbef⟩
  · have M := f49_M s X call lf s.size (fun i => byteN s i) hlf (fun i _ h => at_byte (by simpa using h)) (fun i h _ => up h hs) (fun j hj => (o49 s j _).1 hj (hall j hj))
    have ho:=(o49 s s.size (byteN s s.size)).2.2 (by omega)
    unfold nameL
    rw [allB_true.2 hall,Bool.true_and]
    cases he:empB s with
    | false=>exact M.2.2.2.2.1 ho (decide_eq_true (by have:=mt emp_iff.2 (by rw [he]; decide); omega))
    | true=>exact M.2.2.2.2.2 ho (decide_eq_false (by have:=emp_iff.1 he; omega))
  · have M := f49_M s X call lf k (fun i => byteN s i) (by omega) (fun i _ h => at_byte (by simpa using h)) (fun i h _ => up h (by omega)) (fun j hj => (o49 s j _).1 (by omega) (hbef j hj))
    unfold nameL
    rw [allB_false hk hbad,Bool.false_and]
    rcases (o49 s k (byteN s k)).2.1 hk hbad with h | h | h | h
    · exact M.1 h
    · exact M.2.1 h
    · exact M.2.2.1 h
    · exact M.2.2.2.1 h
theorem o75 (s:ByteArray) (i c:Nat):(i < s.size→pF c=true→f75_o0 s i c=0)∧(i < s.size → ¬ pF c=true→f75_o0 s i c=1 ∨ f75_o0 s i c=2 ∨ f75_o0 s i c=3 ∨ f75_o0 s i c=4)∧(¬ i < s.size→f75_o0 s i c=5):=by
  unfold f75_o0 pF
  simp only [decide_eq_true_eq]
  refine ⟨fun h1 h2 => ?_,fun h1 h2 => ?_,fun h1 => ?_⟩
  all_goals (repeat' split)
  all_goals simp_all
  all_goals omega
theorem name75 (hs:s.size ≤ big) (hlf:s.size < lf):vbody Tryz.prog X call lf noFg Tryz.f38 (codeOf Tryz.f38) [st s] [] 0=some (bo (nameF s),[]):=by
  have hb:s.size ≤ 140737488355328:=hs
  rcases first_fail (p:=fun i=>pF (byteN s i)=true) s.size with hall | ⟨k,hk,hbad,hbef⟩
  · have M := f75_M s X call lf s.size (fun i => byteN s i) hlf (fun i _ h => at_byte (by simpa using h)) (fun i h _ => up h hs) (fun j hj => (o75 s j _).1 hj (hall j hj))
    have ho:=(o75 s s.size (byteN s s.size)).2.2 (by omega)
    unfold nameF
    rw [allB_true.2 hall,Bool.true_and]
    cases he:(!empB s) with
    | true=>exact M.2.2.2.2.1 ho he
    | false=>exact M.2.2.2.2.2 ho he
  · have M := f75_M s X call lf k (fun i => byteN s i) (by omega) (fun i _ h => at_byte (by simpa using h)) (fun i h _ => up h (by omega)) (fun j hj => (o75 s j _).1 (by omega) (hbef j hj))
    unfold nameF
    rw [allB_false hk hbad,Bool.false_and]
    rcases (o75 s k (byteN s k)).2.1 hk hbad with h | h | h | h
    · exact M.1 h
    · exact M.2.1 h
    · exact M.2.2.1 h
    · exact M.2.2.2.1 h
theorem o81 (s:ByteArray) (i c:Nat):(i < s.size→pF c=true→f81_o0 s i c=0)∧(i < s.size → ¬ pF c=true→f81_o0 s i c=1 ∨ f81_o0 s i c=2 ∨ f81_o0 s i c=3 ∨ f81_o0 s i c=4)∧(¬ i < s.size→f81_o0 s i c=5):=by
  unfold f81_o0 pF
  simp only [decide_eq_true_eq]
  refine ⟨fun h1 h2 => ?_,fun h1 h2 => ?_,fun h1 => ?_⟩
  all_goals (repeat' split)
  all_goals simp_all
  all_goals omega
theorem name81 (hs:s.size ≤ big) (hlf:s.size < lf):vbody Tryz.prog X call lf noFg Tryz.f58 (codeOf Tryz.f58) [st s] [] 0=some (bo (nameF s),[]):=by
  have hb:s.size ≤ 140737488355328:=hs
  rcases first_fail (p:=fun i=>pF (byteN s i)=true) s.size with hall | ⟨k,hk,hbad,hbef⟩
  · have M := f81_M s X call lf s.size (fun i => byteN s i) hlf (fun i _ h => at_byte (by simpa using h)) (fun i h _ => up h hs) (fun j hj => (o81 s j _).1 hj (hall j hj))
    have ho:=(o81 s s.size (byteN s s.size)).2.2 (by omega)
    unfold nameF
    rw [allB_true.2 hall,Bool.true_and]
    cases he:empB s with
    | false=>exact M.2.2.2.2.1 ho (decide_eq_true (by have:=mt emp_iff.2 (by rw [he]; decide); omega))
    | true=>exact M.2.2.2.2.2 ho (decide_eq_false (by have:=emp_iff.1 he; omega))
  · have M := f81_M s X call lf k (fun i => byteN s i) (by omega) (fun i _ h => at_byte (by simpa using h)) (fun i h _ => up h (by omega)) (fun j hj => (o81 s j _).1 (by omega) (hbef j hj))
    unfold nameF
    rw [allB_false hk hbad,Bool.false_and]
    rcases (o81 s k (byteN s k)).2.1 hk hbad with h | h | h | h
    · exact M.1 h
    · exact M.2.1 h
    · exact M.2.2.1 h
    · exact M.2.2.2.1 h
end
end Go.Proofs.Lex
end
