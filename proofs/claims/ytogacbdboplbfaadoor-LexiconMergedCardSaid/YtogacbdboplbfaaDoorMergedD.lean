/- Part 4 of the texts of this claim: the evaluator, and what it says of the program's functions. -/
import Derived.Test.YtogacbdboplbfaaDoorMergedB
import Derived.Test.YtogacbdboplbfaaDoorMergedC
import Derived.Test.YtogacbdboplbfaaDoorProg
import Derived.Ground.NamesProg
import Derived.Shelf.Sort.Plain
import Derived.Shelf.Slices.In.SortNone
import Derived.Shelf.Strings.OnBuilder
import Derived.Shelf.Strings.Split
import Derived.Shelf.Strings.Cut
import Derived.Shelf.Strings.IndexAnyAll
import Derived.Shelf.Unicode.ValidAny
import Derived.WalkKit
import Derived.WalkMore
import Derived.BigQuiet
import Derived.Deep.RegionWith
import Derived.Lib.Walk
import Derived.Lib.SliceRun
import Derived.Laws.RangeAny
import Derived.Shelf.Small.Utf8
import Derived.Laws.Runes
import Derived.Lib.OthersKept
set_option linter.unusedSectionVars false
set_option linter.unusedVariables false
set_option linter.unusedSimpArgs false
set_option linter.constructorNameAsVariable false
/- Lexicon: words for the texts that are printed. -/
section
open Go Go.Vm Go.Proofs
namespace Go.Proofs.Lex
theorem ai {a b:Prop} (x:a) (y:b):a∧b:=And.intro x y
abbrev i6 (n:Int):AV := .int .i64 n
abbrev bo (b:Bool):AV := .bool b
abbrev st (s:ByteArray):AV := .str s
abbrev lro (n sz:Nat) (cs:List AV):AV := .list .ro n sz cs
abbrev w6 (n:Int):Int:=IntKind.wrap .i64 n
structure Feat where
  name:ByteArray
  value:ByteArray
  deriving DecidableEq
structure Lexm where
  id:ByteArray
  cat:ByteArray
  stem:ByteArray
  par:ByteArray
  feats:List Feat
  deriving DecidableEq
def featC (f:Feat):List AV:=[.str f.name,.str f.value]
def featsV (l:List Feat):AV := .list .ro l.length 2 (l.flatMap featC)
def lexC (x:Lexm):List AV:=[.str x.id,.str x.cat,.str x.stem,.str x.par,featsV x.feats]
def lexsV (l:List Lexm):AV := .list .ro l.length 5 (l.flatMap lexC)
/-! ### codes -/
section
variable [Fixed]
def cF:Cod Feat:=(Cod.str.prod Cod.str).iso (fun x=>⟨x.1,x.2⟩) (fun f=>(f.name,f.value)) (fun _=>rfl) (fun _=>rfl)
def cL:Cod Lexm:=(Cod.str.prod (Cod.str.prod (Cod.str.prod (Cod.str.prod cF.list)))).iso (fun x=>⟨x.1,x.2.1,x.2.2.1,x.2.2.2.1,x.2.2.2.2⟩) (fun x=>(x.id,x.cat,x.stem,x.par,x.feats)) (fun _=>rfl) (fun _=>rfl)
def aS:Arg ByteArray:=Arg.cell Cod.str rfl
def aI:Arg Int:=Arg.cell (Cod.int .i64) rfl
def aB:Arg Bool:=Arg.cell Cod.bool rfl
def aF:Arg Feat:=Arg.agg cF
def aFs:Arg (List Feat):=Arg.cell cF.list rfl
def aL:Arg Lexm:=Arg.agg cL
def aLs:Arg (List Lexm):=Arg.cell cL.list rfl
def aSs:Arg (List ByteArray):=Arg.cell Cod.str.list rfl
def aSss:Arg (List (List ByteArray)):=Arg.cell Cod.str.list.list rfl
theorem aFs_enc (F:List Feat):aFs.enc F=featsV F:=rfl
theorem aSs_enc (l:List ByteArray):aSs.enc l=Go.Vm.strs l:=by
  show AV.list .ro l.length 1 (l.flatMap fun s=>[.str s])=AV.list .ro l.length 1 (l.map .str)
  have : ∀ l : List ByteArray, (l.flatMap fun s => [AV.str s]) = l.map .str := by
    intro l
    induction l with
    | nil=>rfl
    | cons x l ih=>rw [List.flatMap_cons,ih]; rfl
  rw [this]
theorem aSs_dec {l:List ByteArray}:aSs.dec (Go.Vm.strs l)=some l:=by rw [← aSs_enc,aSs.de]
end
end Go.Proofs.Lex
end
/- Lexicon: Sort, Join, Split, Cut, ContainsAny, ValidString by their contracts, laid in plain words. -/
section
namespace Go.Proofs
open Go.Shelf
def Tryd.laysSortS_ren:Go.Shelf.Ren:=⟨fun | 190=>39 | 125=>73 | 258=>72 | 128=>103 | 129=>104 | 302=>94 | 303=>95 | 304=>96 | 305=>97 | 306=>98 | 307=>99 | 308=>100 | 309=>101 | 310=>102 | 333=>117 | 329=>118 | 330=>119 | 334=>120 | 335=>121 | 336=>122 | 344=>132 | n=>n,fun | 31=>25 | 9=>9 | 3=>3 | 46=>85 | 0=>0 | 51=>106 | 53=>122 | 4=>4 | 183=>115 | 182=>114 | 131=>112 | 5=>5 | 218=>138 | 222=>142 | 228=>153 | 229=>154 | n=>n,fun | n=>n⟩
theorem Tryd.laysSortS:Go.Proofs.Lays.n190 Tryd.prog Tryd.laysSortS_ren := {
  mixed:=by kernel_rfl
  f125:=Tryd.func73.trans (congrArg some (by kernel_rfl))
  f128:=Tryd.func103.trans (congrArg some (by kernel_rfl))
  f129:=Tryd.func104.trans (congrArg some (by kernel_rfl))
  f190:=Tryd.func39.trans (congrArg some (by kernel_rfl))
  f258:=Tryd.func72.trans (congrArg some (by kernel_rfl))
  f302:=Tryd.func94.trans (congrArg some (by kernel_rfl))
  f303:=Tryd.func95.trans (congrArg some (by kernel_rfl))
  f304:=Tryd.func96.trans (congrArg some (by kernel_rfl))
  f305:=Tryd.func97.trans (congrArg some (by kernel_rfl))
  f306:=Tryd.func98.trans (congrArg some (by kernel_rfl))
  f307:=Tryd.func99.trans (congrArg some (by kernel_rfl))
  f308:=Tryd.func100.trans (congrArg some (by kernel_rfl))
  f309:=Tryd.func101.trans (congrArg some (by kernel_rfl))
  f310:=Tryd.func102.trans (congrArg some (by kernel_rfl))
  f329:=Tryd.func118.trans (congrArg some (by kernel_rfl))
  f330:=Tryd.func119.trans (congrArg some (by kernel_rfl))
  f333:=Tryd.func117.trans (congrArg some (by kernel_rfl))
  f334:=Tryd.func120.trans (congrArg some (by kernel_rfl))
  f335:=Tryd.func121.trans (congrArg some (by kernel_rfl))
  f336:=Tryd.func122.trans (congrArg some (by kernel_rfl))
  f344:=Tryd.func132.trans (congrArg some (by kernel_rfl))
  t0:=Tryd.underlying0
  a0:=Tryd.isAgg0
  z0:=Tryd.sizeOf0
  v0:=Tryd.zeroValue0
  t3:=Tryd.underlying3
  a3:=Tryd.isAgg3
  z3:=Tryd.sizeOf3
  v3:=Tryd.zeroValue3
  t4:=Tryd.underlying4
  a4:=Tryd.isAgg4
  z4:=Tryd.sizeOf4
  v4:=Tryd.zeroValue4
  t5:=Tryd.underlying5
  a5:=Tryd.isAgg5
  z5:=Tryd.sizeOf5
  v5:=Tryd.zeroValue5
  t9:=Tryd.underlying9
  a9:=Tryd.isAgg9
  z9:=Tryd.sizeOf9
  v9:=Tryd.zeroValue9
  t31:=Tryd.underlying25
  a31:=Tryd.isAgg25
  z31:=Tryd.sizeOf25
  v31:=Tryd.zeroValue25
  t46:=Tryd.underlying85
  a46:=Tryd.isAgg85
  z46:=Tryd.sizeOf85
  v46:=Tryd.zeroValue85
  t51:=Tryd.underlying106
  a51:=Tryd.isAgg106
  z51:=Tryd.sizeOf106
  v51:=Tryd.zeroValue106
  t53:=Tryd.underlying122
  a53:=Tryd.isAgg122
  z53:=Tryd.sizeOf122
  v53:=Tryd.zeroValue122
  t131:=Tryd.underlying112
  a131:=Tryd.isAgg112
  z131:=Tryd.sizeOf112
  v131:=Tryd.zeroValue112
  t182:=Tryd.underlying114
  a182:=Tryd.isAgg114
  z182:=Tryd.sizeOf114
  v182:=Tryd.zeroValue114
  t183:=Tryd.underlying115
  a183:=Tryd.isAgg115
  z183:=Tryd.sizeOf115
  v183:=Tryd.zeroValue115
  t218:=Tryd.underlying138
  a218:=Tryd.isAgg138
  z218:=Tryd.sizeOf138
  v218:=Tryd.zeroValue138
  t222:=Tryd.underlying142
  a222:=Tryd.isAgg142
  z222:=Tryd.sizeOf142
  v222:=Tryd.zeroValue142
  t228:=Tryd.underlying153
  a228:=Tryd.isAgg153
  z228:=Tryd.sizeOf153
  v228:=Tryd.zeroValue153
  t229:=Tryd.underlying154
  a229:=Tryd.isAgg154
  z229:=Tryd.sizeOf154
  v229:=Tryd.zeroValue154 }
def Tryd.laysJoin_ren:Go.Shelf.Ren:=⟨fun | 156=>55 | 165=>85 | 166=>79 | 169=>80 | 240=>110 | 241=>115 | 276=>126 | 277=>131 | n=>n,fun | 31=>25 | 9=>9 | 3=>3 | 4=>4 | 0=>0 | 20=>20 | 72=>91 | 76=>95 | 70=>88 | 37=>89 | 75=>93 | 127=>131 | 164=>147 | 5=>5 | 80=>97 | n=>n,fun | n=>n⟩
theorem Tryd.laysJoin:Go.Proofs.Lays.n156 Tryd.prog Tryd.laysJoin_ren := {
  mixed:=by kernel_rfl
  f156:=Tryd.func55.trans (congrArg some (by kernel_rfl))
  f165:=Tryd.func85.trans (congrArg some (by kernel_rfl))
  f166:=Tryd.func79.trans (congrArg some (by kernel_rfl))
  f169:=Tryd.func80.trans (congrArg some (by kernel_rfl))
  f240:=Tryd.func110.trans (congrArg some (by kernel_rfl))
  f241:=Tryd.func115.trans (congrArg some (by kernel_rfl))
  f276:=Tryd.func126.trans (congrArg some (by kernel_rfl))
  f277:=Tryd.func131.trans (congrArg some (by kernel_rfl))
  t0:=Tryd.underlying0
  a0:=Tryd.isAgg0
  z0:=Tryd.sizeOf0
  v0:=Tryd.zeroValue0
  t3:=Tryd.underlying3
  a3:=Tryd.isAgg3
  z3:=Tryd.sizeOf3
  v3:=Tryd.zeroValue3
  t4:=Tryd.underlying4
  a4:=Tryd.isAgg4
  z4:=Tryd.sizeOf4
  v4:=Tryd.zeroValue4
  t9:=Tryd.underlying9
  a9:=Tryd.isAgg9
  z9:=Tryd.sizeOf9
  v9:=Tryd.zeroValue9
  t20:=Tryd.underlying20
  a20:=Tryd.isAgg20
  z20:=Tryd.sizeOf20
  v20:=Tryd.zeroValue20
  t31:=Tryd.underlying25
  a31:=Tryd.isAgg25
  z31:=Tryd.sizeOf25
  v31:=Tryd.zeroValue25
  t37:=Tryd.underlying89
  a37:=Tryd.isAgg89
  z37:=Tryd.sizeOf89
  v37:=Tryd.zeroValue89
  t70:=Tryd.underlying88
  a70:=Tryd.isAgg88
  z70:=Tryd.sizeOf88
  v70:=Tryd.zeroValue88
  t72:=Tryd.underlying91
  a72:=Tryd.isAgg91
  z72:=Tryd.sizeOf91
  v72:=Tryd.zeroValue91
  t75:=Tryd.underlying93
  a75:=Tryd.isAgg93
  z75:=Tryd.sizeOf93
  v75:=Tryd.zeroValue93
  t76:=Tryd.underlying95
  a76:=Tryd.isAgg95
  z76:=Tryd.sizeOf95
  v76:=Tryd.zeroValue95
  t127:=Tryd.underlying131
  a127:=Tryd.isAgg131
  z127:=Tryd.sizeOf131
  v127:=Tryd.zeroValue131
  t164:=Tryd.underlying147
  a164:=Tryd.isAgg147
  z164:=Tryd.sizeOf147
  v164:=Tryd.zeroValue147 }
def Tryd.laysSplit_ren:Go.Shelf.Ren:=⟨fun | 146=>53 | 221=>83 | 268=>111 | 138=>112 | 143=>113 | 195=>127 | 197=>128 | 218=>129 | 219=>130 | 260=>134 | 217=>133 | 225=>125 | 224=>124 | 267=>135 | 266=>136 | 314=>137 | n=>n,fun | 9=>9 | 31=>25 | 3=>3 | 4=>4 | 0=>0 | 105=>150 | 21=>21 | 5=>5 | 46=>85 | 119=>134 | 139=>137 | 138=>136 | 146=>156 | 51=>106 | n=>n,fun | 1=>2 | 3=>0 | 4=>1 | n=>n⟩
theorem Tryd.laysSplit:Go.Proofs.Lays.n146 Tryd.prog Tryd.laysSplit_ren := {
  mixed:=by kernel_rfl
  f138:=Tryd.func112.trans (congrArg some (by kernel_rfl))
  f143:=Tryd.func113.trans (congrArg some (by kernel_rfl))
  f146:=Tryd.func53.trans (congrArg some (by kernel_rfl))
  f195:=Tryd.func127.trans (congrArg some (by kernel_rfl))
  f197:=Tryd.func128.trans (congrArg some (by kernel_rfl))
  f217:=Tryd.func133.trans (congrArg some (by kernel_rfl))
  f218:=Tryd.func129.trans (congrArg some (by kernel_rfl))
  f219:=Tryd.func130.trans (congrArg some (by kernel_rfl))
  f221:=Tryd.func83.trans (congrArg some (by kernel_rfl))
  f224:=Tryd.func124.trans (congrArg some (by kernel_rfl))
  f225:=Tryd.func125.trans (congrArg some (by kernel_rfl))
  f260:=Tryd.func134.trans (congrArg some (by kernel_rfl))
  f266:=Tryd.func136.trans (congrArg some (by kernel_rfl))
  f267:=Tryd.func135.trans (congrArg some (by kernel_rfl))
  f268:=Tryd.func111.trans (congrArg some (by kernel_rfl))
  f314:=Tryd.func137.trans (congrArg some (by kernel_rfl))
  t0:=Tryd.underlying0
  a0:=Tryd.isAgg0
  z0:=Tryd.sizeOf0
  v0:=Tryd.zeroValue0
  t3:=Tryd.underlying3
  a3:=Tryd.isAgg3
  z3:=Tryd.sizeOf3
  v3:=Tryd.zeroValue3
  t4:=Tryd.underlying4
  a4:=Tryd.isAgg4
  z4:=Tryd.sizeOf4
  v4:=Tryd.zeroValue4
  t5:=Tryd.underlying5
  a5:=Tryd.isAgg5
  z5:=Tryd.sizeOf5
  v5:=Tryd.zeroValue5
  t9:=Tryd.underlying9
  a9:=Tryd.isAgg9
  z9:=Tryd.sizeOf9
  v9:=Tryd.zeroValue9
  t21:=Tryd.underlying21
  a21:=Tryd.isAgg21
  z21:=Tryd.sizeOf21
  v21:=Tryd.zeroValue21
  t31:=Tryd.underlying25
  a31:=Tryd.isAgg25
  z31:=Tryd.sizeOf25
  v31:=Tryd.zeroValue25
  t46:=Tryd.underlying85
  a46:=Tryd.isAgg85
  z46:=Tryd.sizeOf85
  v46:=Tryd.zeroValue85
  t51:=Tryd.underlying106
  a51:=Tryd.isAgg106
  z51:=Tryd.sizeOf106
  v51:=Tryd.zeroValue106
  t105:=Tryd.underlying150
  a105:=Tryd.isAgg150
  z105:=Tryd.sizeOf150
  v105:=Tryd.zeroValue150
  t119:=Tryd.underlying134
  a119:=Tryd.isAgg134
  z119:=Tryd.sizeOf134
  t138:=Tryd.underlying136
  a138:=Tryd.isAgg136
  z138:=Tryd.sizeOf136
  v138:=Tryd.zeroValue136
  t139:=Tryd.underlying137
  a139:=Tryd.isAgg137
  z139:=Tryd.sizeOf137
  v139:=Tryd.zeroValue137
  t146:=Tryd.underlying156
  a146:=Tryd.isAgg156
  z146:=Tryd.sizeOf156
  v146:=Tryd.zeroValue156
  g1:=by kernel_rfl
  g3:=by kernel_rfl
  g4:=by kernel_rfl }
def Tryd.laysCut_ren:Go.Shelf.Ren:=⟨fun | 145=>84 | 220=>114 | 219=>130 | 217=>133 | 225=>125 | 224=>124 | 267=>135 | 266=>136 | 314=>137 | n=>n,fun | 9=>9 | 4=>4 | 59=>72 | 3=>3 | 5=>5 | 46=>85 | 146=>156 | 51=>106 | n=>n,fun | 1=>2 | n=>n⟩
theorem Tryd.laysCut:Go.Proofs.Lays.n145 Tryd.prog Tryd.laysCut_ren := {
  mixed:=by kernel_rfl
  f145:=Tryd.func84.trans (congrArg some (by kernel_rfl))
  f217:=Tryd.func133.trans (congrArg some (by kernel_rfl))
  f219:=Tryd.func130.trans (congrArg some (by kernel_rfl))
  f220:=Tryd.func114.trans (congrArg some (by kernel_rfl))
  f224:=Tryd.func124.trans (congrArg some (by kernel_rfl))
  f225:=Tryd.func125.trans (congrArg some (by kernel_rfl))
  f266:=Tryd.func136.trans (congrArg some (by kernel_rfl))
  f267:=Tryd.func135.trans (congrArg some (by kernel_rfl))
  f314:=Tryd.func137.trans (congrArg some (by kernel_rfl))
  t3:=Tryd.underlying3
  a3:=Tryd.isAgg3
  z3:=Tryd.sizeOf3
  v3:=Tryd.zeroValue3
  t4:=Tryd.underlying4
  a4:=Tryd.isAgg4
  z4:=Tryd.sizeOf4
  v4:=Tryd.zeroValue4
  t5:=Tryd.underlying5
  a5:=Tryd.isAgg5
  z5:=Tryd.sizeOf5
  v5:=Tryd.zeroValue5
  t9:=Tryd.underlying9
  a9:=Tryd.isAgg9
  z9:=Tryd.sizeOf9
  v9:=Tryd.zeroValue9
  t46:=Tryd.underlying85
  a46:=Tryd.isAgg85
  z46:=Tryd.sizeOf85
  v46:=Tryd.zeroValue85
  t51:=Tryd.underlying106
  a51:=Tryd.isAgg106
  z51:=Tryd.sizeOf106
  v51:=Tryd.zeroValue106
  t59:=Tryd.underlying72
  a59:=Tryd.isAgg72
  z59:=Tryd.sizeOf72
  v59:=Tryd.zeroValue72
  t146:=Tryd.underlying156
  a146:=Tryd.isAgg156
  z146:=Tryd.sizeOf156
  v146:=Tryd.zeroValue156
  g1:=by kernel_rfl }
def Tryd.laysAny_ren:Go.Shelf.Ren:=⟨fun | 150=>44 | 153=>74 | 152=>105 | 226=>106 | 227=>107 | 228=>108 | 137=>123 | 119=>91 | 224=>124 | 225=>125 | 217=>133 | 266=>136 | n=>n,fun | 9=>9 | 4=>4 | 3=>3 | 5=>5 | 21=>21 | 117=>127 | 116=>126 | 0=>0 | 46=>85 | 124=>146 | n=>n,fun | n=>n⟩
theorem Tryd.laysAny:Go.Proofs.Lays.n150 Tryd.prog Tryd.laysAny_ren := {
  mixed:=by kernel_rfl
  f119:=Tryd.func91.trans (congrArg some (by kernel_rfl))
  f137:=Tryd.func123.trans (congrArg some (by kernel_rfl))
  f150:=Tryd.func44.trans (congrArg some (by kernel_rfl))
  f152:=Tryd.func105.trans (congrArg some (by kernel_rfl))
  f153:=Tryd.func74.trans (congrArg some (by kernel_rfl))
  f217:=Tryd.func133.trans (congrArg some (by kernel_rfl))
  f224:=Tryd.func124.trans (congrArg some (by kernel_rfl))
  f225:=Tryd.func125.trans (congrArg some (by kernel_rfl))
  f226:=Tryd.func106.trans (congrArg some (by kernel_rfl))
  f227:=Tryd.func107.trans (congrArg some (by kernel_rfl))
  f228:=Tryd.func108.trans (congrArg some (by kernel_rfl))
  f266:=Tryd.func136.trans (congrArg some (by kernel_rfl))
  t0:=Tryd.underlying0
  a0:=Tryd.isAgg0
  z0:=Tryd.sizeOf0
  v0:=Tryd.zeroValue0
  t3:=Tryd.underlying3
  a3:=Tryd.isAgg3
  z3:=Tryd.sizeOf3
  v3:=Tryd.zeroValue3
  t4:=Tryd.underlying4
  a4:=Tryd.isAgg4
  z4:=Tryd.sizeOf4
  v4:=Tryd.zeroValue4
  t5:=Tryd.underlying5
  a5:=Tryd.isAgg5
  z5:=Tryd.sizeOf5
  v5:=Tryd.zeroValue5
  t9:=Tryd.underlying9
  a9:=Tryd.isAgg9
  z9:=Tryd.sizeOf9
  v9:=Tryd.zeroValue9
  t21:=Tryd.underlying21
  a21:=Tryd.isAgg21
  z21:=Tryd.sizeOf21
  v21:=Tryd.zeroValue21
  t46:=Tryd.underlying85
  a46:=Tryd.isAgg85
  z46:=Tryd.sizeOf85
  v46:=Tryd.zeroValue85
  t116:=Tryd.underlying126
  a116:=Tryd.isAgg126
  z116:=Tryd.sizeOf126
  t117:=Tryd.underlying127
  a117:=Tryd.isAgg127
  z117:=Tryd.sizeOf127
  v117:=Tryd.zeroValue127
  t124:=Tryd.underlying146
  a124:=Tryd.isAgg146
  z124:=Tryd.sizeOf146
  v124:=Tryd.zeroValue146 }
def Tryd.laysValid_ren:Go.Shelf.Ren:=⟨fun | 196=>93 | 259=>116 | n=>n,fun | 9=>9 | 4=>4 | 3=>3 | 5=>5 | 12=>12 | 119=>134 | 0=>0 | 46=>85 | 139=>137 | 138=>136 | 53=>122 | n=>n,fun | 3=>0 | 4=>1 | n=>n⟩
theorem Tryd.laysValid:Go.Proofs.Lays.n196 Tryd.prog Tryd.laysValid_ren := {
  mixed:=by kernel_rfl
  f196:=Tryd.func93.trans (congrArg some (by kernel_rfl))
  f259:=Tryd.func116.trans (congrArg some (by kernel_rfl))
  t0:=Tryd.underlying0
  a0:=Tryd.isAgg0
  z0:=Tryd.sizeOf0
  v0:=Tryd.zeroValue0
  t3:=Tryd.underlying3
  a3:=Tryd.isAgg3
  z3:=Tryd.sizeOf3
  v3:=Tryd.zeroValue3
  t4:=Tryd.underlying4
  a4:=Tryd.isAgg4
  z4:=Tryd.sizeOf4
  v4:=Tryd.zeroValue4
  t5:=Tryd.underlying5
  a5:=Tryd.isAgg5
  z5:=Tryd.sizeOf5
  v5:=Tryd.zeroValue5
  t9:=Tryd.underlying9
  a9:=Tryd.isAgg9
  z9:=Tryd.sizeOf9
  v9:=Tryd.zeroValue9
  t12:=Tryd.underlying12
  a12:=Tryd.isAgg12
  z12:=Tryd.sizeOf12
  v12:=Tryd.zeroValue12
  t46:=Tryd.underlying85
  a46:=Tryd.isAgg85
  z46:=Tryd.sizeOf85
  v46:=Tryd.zeroValue85
  t53:=Tryd.underlying122
  a53:=Tryd.isAgg122
  z53:=Tryd.sizeOf122
  v53:=Tryd.zeroValue122
  t119:=Tryd.underlying134
  a119:=Tryd.isAgg134
  z119:=Tryd.sizeOf134
  t138:=Tryd.underlying136
  a138:=Tryd.isAgg136
  z138:=Tryd.sizeOf136
  v138:=Tryd.zeroValue136
  t139:=Tryd.underlying137
  a139:=Tryd.isAgg137
  z139:=Tryd.sizeOf137
  v139:=Tryd.zeroValue137
  g3:=by kernel_rfl
  g4:=by kernel_rfl }
theorem Tryd.joinExtra:Builder.Extra Tryd.prog Tryd.laysJoin_ren := {
  sizeBuilder:=by kernel_rfl
  liesBuilder:=by kernel_rfl
  t5:=Tryd.underlying5
  a5:=Tryd.isAgg5
  z5:=Tryd.sizeOf5
  v5:=Tryd.zeroValue5
  infoByte:=by kernel_rfl
  cellsByte:=by kernel_rfl
  sizeByte:=by kernel_rfl
  neB5:=by decide }
end Go.Proofs
end
/- strings.IndexRune and IndexAny, where the bytes looked for are a blank and a line's end. -/
section
set_option linter.unusedVariables false
open Go Go.Proofs
open Go.Shelf Go.RowKit Go.Lib
namespace Go.Proofs.Lex
variable {P:Program} {ρ:Ren}
set_option maxHeartbeats 4000000 in
set_option maxRecDepth 1000000 in
theorem idxRune_err0 (L:Lays.n152 P ρ) (w:World):Calls P (ρ.f 152) #[.string ⟨#[32,10]⟩,.int .i32 65533] w fun e w' => e = .returned (.int .i64 (-1))∧Below w.heap.size w w' := by
  have t3:=L.t3; have a3:=L.a3; have z3:=L.z3; have v3:=L.v3
  have t4:=L.t4; have a4:=L.a4; have z4:=L.z4; have v4:=L.v4
  have t5:=L.t5; have a5:=L.a5; have z5:=L.z5; have v5:=L.v5
  have t9:=L.t9; have a9:=L.a9; have z9:=L.z9; have v9:=L.v9
  have t21:=L.t21; have a21:=L.a21; have z21:=L.z21; have v21:=L.v21
  go_enter L.f152,Body.n152_ntmps ρ
  go_wp2
  go_loopg [5,6] 2 (fun g _ _ wx=>∃ i:Nat,i + g=2∧wx=w.iter ⟨#[32,10]⟩ i)
  case atStart=>exact ⟨0,by omega,rfl⟩
  case round =>
    obtain ⟨i,hig,rfl⟩:=hrel
    cases gk with
    | zero =>
      obtain rfl:i=2:=by omega
      have hnx:=fun ty=>run_next_end (P:=P) w ⟨#[32,10]⟩ 2 ty (by decide)
      go_wp2
      go_ret
      exact ⟨rfl,(Below.refl _ _).alloc (Nat.le_refl _) _⟩
    | succ g =>
      have hi:i < (ByteArray.mk #[32,10]).size:=by show i < 2; omega
      obtain ⟨x,hx⟩:∃ x:UInt8,(ByteArray.mk #[32,10])[i]'hi=x:=⟨_,rfl⟩
      have hx128 : x.toNat < 128 := by
        have h2:i < 2:=hi
        rcases i with _ | _ | i
        · rw [← hx]; show (32:UInt8).toNat < 128; decide
        · rw [← hx]; show (10:UInt8).toNat < 128; decide
        · omega
      have hnx:=fun ty=>run_next_ascii (P:=P) w ⟨#[32,10]⟩ i ty hi (by rw [hx]; exact hx128)
      rw [hx] at hnx
      have hne:((x.toNat:Int) == 65533)=false:=beq_eq_false_iff_ne.2 (by omega)
      go_wp2
      go_roundg g
      case measure=>omega
      case rel=>exact ⟨i + 1,by omega,rfl⟩
set_option maxHeartbeats 4000000 in
set_option maxRecDepth 1000000 in
theorem idxRune_bad0 (L:Lays.n152 P ρ) (w:World) (r:Int) (h1:128 ≤ r) (h2:(r == 65533)=false) (hv:Lib.validRune r=false):Calls P (ρ.f 152) #[.string ⟨#[32,10]⟩,.int .i32 r] w fun e w' => e = .returned (.int .i64 (-1))∧Below w.heap.size w w' := by
  have t3:=L.t3; have a3:=L.a3; have z3:=L.z3; have v3:=L.v3
  have t4:=L.t4; have a4:=L.a4; have z4:=L.z4; have v4:=L.v4
  have t5:=L.t5; have a5:=L.a5; have z5:=L.z5; have v5:=L.v5
  have t9:=L.t9; have a9:=L.a9; have z9:=L.z9; have v9:=L.v9
  have t21:=L.t21; have a21:=L.a21; have z21:=L.z21; have v21:=L.v21
  have e119:∀ args w,(callFunc (ρ.f 119) args).run P w = .ok (.enter (ρ.f 119) args) w:=enters_of L.f119 (by kernel_rfl) rfl
  have h3 : ¬ r < 128:=by omega
  go_enter L.f152,Body.n152_ntmps ρ
  go_wp2_with (go_at_fn (ρ.f 119); refine (Any.utf8_ValidRune { L with } _ _).mono ?_; rintro e w' ⟨rfl,hw⟩; rw [hw,hv])
  go_ret
  exact ⟨rfl,Below.refl _ _⟩
set_option maxHeartbeats 8000000 in
set_option maxRecDepth 1000000 in
theorem idxRune_long (w:World) (r:Int) (h1:128 ≤ r) (h2:(r == 65533)=false) (hv:Lib.validRune r=true) (E:ByteArray) (hE:Utf8.encode r=E) (hs:3 ≤ E.size) (hs4:E.size ≤ 4):Calls Tryd.prog 105 #[.string ⟨#[32,10]⟩,.int .i32 r] w fun e w' => e = .returned (.int .i64 (-1))∧Below w.heap.size w w' := by
  have h3 : ¬ r < 128:=by omega
  have hw1:IntKind.wrap .i64 ((E.size:Int) - 1)=((E.size - 1:Nat):Int):=by rw [IntKind.wrap_i64]; omega
  have hlt : ¬ ((E.size - 1:Nat):Int) < 2:=by omega
  have hV:=Any.utf8_ValidRune (P:=Tryd.prog) (ρ:=Tryd.laysAny_ren) { Tryd.laysAny with } r
  rw [hv] at hV
  go_enter Tryd.func105,Tryd.ntmps105
  go_wp2_with (go_at_call 91; refine (hV _).mono ?_; rintro e w' ⟨rfl,hw⟩)
  go_step3
  go_wp2
  go_loopg [9,10] 0 (fun g x y wx=>x = .int .i64 ((E.size - 1:Nat):Int)∧y = .int .i64 0∧wx=w)
  case atStart=>exact ⟨rfl,rfl,rfl⟩
  case round =>
    obtain ⟨rfl,rfl,rfl⟩:=hrel
    go_wp2
    rw [Exit.noGoto_ret]
    go_ret
    exact ⟨rfl,Below.refl _ _⟩
set_option maxHeartbeats 8000000 in
set_option maxRecDepth 1000000 in
theorem idxRune_two (w:World) (r:Int) (h1:128 ≤ r) (h2:(r == 65533)=false) (hv:Lib.validRune r=true) (E:ByteArray) (hE:Utf8.encode r=E) (hs:E.size=2) (b:UInt8) (hb:128 ≤ b.toNat) (hEb:∀ h:1 < E.size,E[1]'h=b):Calls Tryd.prog 105 #[.string ⟨#[32,10]⟩,.int .i32 r] w fun e w' => e = .returned (.int .i64 (-1))∧Below w.heap.size w w' := by
  have h3 : ¬ r < 128:=by omega
  have hw1:IntKind.wrap .i64 ((E.size:Int) - 1)=1:=by rw [IntKind.wrap_i64]; omega
  have hV:=Any.utf8_ValidRune (P:=Tryd.prog) (ρ:=Tryd.laysAny_ren) { Tryd.laysAny with } r
  rw [hv] at hV
  have hI:=Any.strings_IndexByte (P:=Tryd.prog) (ρ:=Tryd.laysAny_ren) { Tryd.laysAny with }
  go_enter Tryd.func105,Tryd.ntmps105
  go_wp2_with (go_at_call 91; refine (hV _).mono ?_; rintro e w' ⟨rfl,hw⟩)
  go_step3
  go_wp2
  go_loopg [9,10] 0 (fun g x y wx=>x = .int .i64 1∧y = .int .i64 0∧wx=w)
  case atStart=>exact ⟨rfl,rfl,rfl⟩
  case round =>
    obtain ⟨rfl,rfl,rfl⟩:=hrel
    go_wp2
    go_step3
    have hlt1:1 < E.size:=by omega
    have hE1:=hEb hlt1
    have hne : (((ByteArray.mk #[32, 10])[1]'(by decide)).toNat : Int) != (b.toNat : Int) := by
      have:((ByteArray.mk #[32,10])[1]'(by decide)).toNat=10:=rfl
      rw [this]
      simp
      omega
    go_wp2
    go_region
    all_goals go_wp2
    have hlt2:(1:Int) < (E.size:Int):=by omega
    have hz2:IntKind.wrap .i64 2=2:=by decide
    have hind:indexByte [] b = -1:=rfl
    have hI2:=hI (ByteArray.extract ⟨#[32,10]⟩ 2 2) (b.toNat:Int)
    go_region_with (go_at_call 123; refine (hI _ _ _).mono ?_; rintro e w' ⟨rfl,hw⟩; rw [hw])
    all_goals go_wp2
    all_goals
      rw [Exit.noGoto_ret]
      simp only [Exit.inBlock,Exit.then]
      rw [Exit.noGoto_ret]
      go_ret
      exact ⟨rfl,((Below.refl _ _).drew).drew⟩
theorem idxRune_high (w:World) (r:Int) (h1:128 ≤ r):Calls Tryd.prog 105 #[.string ⟨#[32,10]⟩,.int .i32 r] w fun e w' => e = .returned (.int .i64 (-1))∧Below w.heap.size w w' := by
  cases h2:(r == 65533) with
  | true =>
    have e:r=65533:=by simpa using h2
    subst e
    exact idxRune_err0 (P:=Tryd.prog) (ρ:=Tryd.laysAny_ren) { Tryd.laysAny with } w
  | false =>
    cases hv:Lib.validRune r with
    | false=>exact idxRune_bad0 (P:=Tryd.prog) (ρ:=Tryd.laysAny_ren) { Tryd.laysAny with } w r h1 h2 hv
    | true =>
      have hval : Utf8.valid r = true := by
        rw [Go.validRune_eq]
        exact hv
      obtain ⟨f1,f2,f3⟩:=encode_facts r hval h1
      by_cases h3:3 ≤ (Utf8.encode r).size
      · exact idxRune_long w r h1 h2 hv _ rfl h3 f2
      · have hs : (Utf8.encode r).size = 2 := by omega
        refine idxRune_two w r h1 h2 hv _ rfl hs ((Utf8.encode r)[1]'(by omega)) ?_ (fun _=>rfl)
        have h4:=f3 (by omega)
        have e:(Utf8.encode r).size - 1=1:=by omega
        simp only [e] at h4
        exact h4
/-- What a rune takes: it lies in the string, and its bytes are no ASCII where its first is none. -/
theorem decode_in (s:ByteArray) (i:Nat) (h:i < s.size):i + (Utf8.decode s i).2 ≤ s.size:=by
  simp only [Utf8.decode]
  repeat' split
  all_goals simp_all
  all_goals omega
theorem decode_bytes (s:ByteArray) (i:Nat) (h:i < s.size) (ha:128 ≤ (s[i]'h).toNat):∀ k,k < (Utf8.decode s i).2→128 ≤ (s.get! (i + k)).toNat:=by
  have hn : ¬ (s[i]'h).toNat < 128:=by omega
  have h0:128 ≤ (s.get! (i + 0)).toNat:=by rw [get_at s i h]; exact ha
  intro k hk
  have hg:(s.get! (i + 0)).toNat=(s[i]'h).toNat:=by rw [get_at s i h]
  simp only [Utf8.decode,get_at s i h,hn,if_false] at hk
  rcases k with _ | _ | _ | _ | k
  · exact h0
  all_goals
    repeat' split at hk
    all_goals simp_all
    all_goals omega
theorem NoAny_far {s:ByteArray} {i w:Nat} (h:Lib.NoAny s.data.toList [32,10] i) (hb:∀ k,k < w→128 ≤ (s.get! (i + k)).toNat):Lib.NoAny s.data.toList [32,10] (i + w):=by
  intro j b hj hjb
  by_cases hji:j < i
  · exact h j b hji hjb
  · have h1 := hb (j - i) (by omega)
    rw [Nat.add_sub_cancel' (by omega)] at h1
    have hjs : j < s.size := by
      have:=(List.getElem?_eq_some_iff.1 hjb).1
      rw [← Lib.size_eq] at this
      exact this
    have e : s.get! j = b := by
      have h2:=get_at s j hjs
      rw [Nat.add_zero] at h2
      rw [h2]
      have h3:=Lib.data_getElem? s j hjs
      rw [hjb] at h3
      exact (Option.some.inj h3).symm
    rw [e] at h1
    rw [Bool.eq_false_iff]
    intro hc
    simp only [List.contains_cons,List.contains_nil,Bool.or_false,Bool.or_eq_true,beq_iff_eq] at hc
    rcases hc with rfl | rfl
    · exact absurd h1 (by decide)
    · exact absurd h1 (by decide)
set_option maxHeartbeats 8000000 in
set_option maxRecDepth 1000000 in
/-- strings.IndexAny, of a string of at most eight bytes. -/
theorem idxAny_short (s:ByteArray) (w:World) (h8:s.size ≤ 8) :
    Calls Tryd.prog 74 #[.string s,.string ⟨#[32,10]⟩] w fun e w' => e = .returned (.int .i64 (Lib.indexAny s.data.toList [32,10]))∧Below w.heap.size w w' := by
  have h8z:decide ((8:Int) < (s.size:Int))=false:=decide_eq_false (by omega)
  have hU:=Any.strings_shouldUseASCIISet (P:=Tryd.prog) (ρ:=Tryd.laysAny_ren) { Tryd.laysAny with }
  have hA:=fun (r:Int) (w:World) (h0:0 ≤ r) (h1:r < 128)=>Any.strings_IndexRune_ascii (P:=Tryd.prog) (ρ:=Tryd.laysAny_ren) { Tryd.laysAny with } ⟨#[32,10]⟩ r w h0 h1
  have hH:=fun (r:Int) (w:World) (h0:128 ≤ r)=>idxRune_high w r h0
  go_enter Tryd.func74,Tryd.ntmps74
  go_wp2_with (go_at_call 106; refine (hU _ _).mono ?_; rintro e w' ⟨rfl,hw⟩; rw [hw,h8z])
  go_loopg [9,10] s.size (fun g _ _ wx=>∃ i:Nat,i + g=s.size∧wx.heap[w.heap.size]? = some (.stringIter s i)∧Below w.heap.size w wx∧Lib.NoAny s.data.toList [32,10] i)
  case atStart=>exact ⟨0,by omega,World.iter_heap w s 0,(Below.refl _ _).alloc (Nat.le_refl _) _,Lib.NoAny.zero _ _⟩
  case round =>
    obtain ⟨i,hig,hit,hbel,hno⟩:=hrel
    have HN:Aside (Lib.NoAny s.data.toList [32,10] i):=hno
    have HB:Aside (Below w.heap.size w wr):=hbel
    have HI:Aside (wr.heap[w.heap.size]? = some (.stringIter s i)):=hit
    clear hno hbel hit
    have hKlt:w.heap.size < wr.heap.size:=(Array.getElem?_eq_some_iff.1 HI.out).1
    cases gk with
    | zero =>
      obtain rfl:i=s.size:=by omega
      have hnx:=fun ty=>run_next_end_at (P:=Tryd.prog) wr w.heap.size s s.size ty HI.out (by omega)
      go_wp2
      go_ret
      exact ⟨by rw [Lib.indexAny_none (by rw [← Lib.size_eq]; exact HN.out)]; rfl,HB.out⟩
    | succ g =>
      have hi:i < s.size:=by omega
      obtain ⟨x,hx⟩:∃ x:UInt8,s[i]'hi=x:=⟨_,rfl⟩
      have hxl:s.data.toList[i]? = some x:=by rw [← hx]; exact Lib.data_getElem? s i hi
      have Hx:Aside (s.data.toList[i]? = some x):=hxl
      clear hxl
      by_cases hx128:x.toNat < 128
      · have hnx := fun ty => run_next_ascii_at (P := Tryd.prog) wr w.heap.size s i ty HI.out hi (by rw [hx]; exact hx128)
        rw [hx] at hnx
        obtain ⟨wn,hwn⟩:∃ wn,wr.iterAt w.heap.size s (i + 1)=wn:=⟨_,rfl⟩
        have HI' : Aside (wn.heap[w.heap.size]? = some (.stringIter s (i + 1))):=by rw [← hwn]; exact iterAt_heap wr _ s i (i + 1) HI.out
        have HB' : Aside (Below w.heap.size w wn):=by rw [← hwn]; exact below_iterAt HB.out (Nat.le_refl _) s (i + 1)
        rw [hwn] at hnx
        clear hx hwn
        have hcon:=Lib.contains_iff_indexByte [32,10] x
        have hback:((x.toNat:Int)).toNat.toUInt8=x:=by simp
        cases hin:[(32:UInt8),10].contains x
        · rw [hin] at hcon
          have hlt : ¬ ((0:Int) ≤ Lib.indexByte [32,10] x):=of_decide_eq_false hcon.symm
          clear hcon
          go_wp2_with (go_at_call 105; refine (hA _ _ (by omega) (by omega)).mono ?_; rintro e w' ⟨rfl,hw⟩; rw [hw,hback])
          go_roundg g
          case measure=>omega
          case rel=>exact ⟨i + 1,by omega,HI'.out,HB'.out,HN.out.succ Hx.out hin⟩
        · rw [hin] at hcon
          have hge:(0:Int) ≤ Lib.indexByte [32,10] x:=of_decide_eq_true hcon.symm
          clear hcon
          go_wp2_with (go_at_call 105; refine (hA _ _ (by omega) (by omega)).mono ?_; rintro e w' ⟨rfl,hw⟩; rw [hw,hback])
          go_ret
          exact ⟨by rw [Lib.indexAny_hit HN.out Hx.out hin]; rfl,HB'.out⟩
      · have hnx := fun ty => run_next_any_at (P := Tryd.prog) wr w.heap.size s i ty HI.out hi
        have hd:=(decode_high s i hi (by rw [hx]; omega)).1
        have hd1:=(decode_high s i hi (by rw [hx]; omega)).2
        have hin:=decode_in s i hi
        have hfar:Aside (Lib.NoAny s.data.toList [32,10] (i + (Utf8.decode s i).2)):=NoAny_far HN.out (decode_bytes s i hi (by rw [hx]; omega))
        obtain ⟨d,n,hdn⟩:∃ d n,Utf8.decode s i=(d,n):=⟨_,_,rfl⟩
        rw [hdn] at hnx hd hd1 hin hfar
        simp only at hnx hd hd1 hin hfar
        obtain ⟨wn,hwn⟩:∃ wn,wr.iterAt w.heap.size s (i + n)=wn:=⟨_,rfl⟩
        have HI' : Aside (wn.heap[w.heap.size]? = some (.stringIter s (i + n))):=by rw [← hwn]; exact iterAt_heap wr _ s i (i + n) HI.out
        have HB' : Aside (Below w.heap.size w wn):=by rw [← hwn]; exact below_iterAt HB.out (Nat.le_refl _) s (i + n)
        have hszn:w.heap.size < wn.heap.size:=by rw [← hwn,iterAt_size]; exact hKlt
        rw [hwn] at hnx
        clear hx hwn hdn
        go_wp2_with (go_at_call 105; refine (hH _ _ (by omega)).mono ?_; rintro e w2 ⟨rfl,hw2⟩)
        go_roundg (s.size - (i + n))
        case measure=>omega
        case rel =>
          refine ⟨i + n,by omega,?_,HB'.out.trans (hw2.mono (Nat.le_of_lt hszn)),hfar.out⟩
          rw [hw2.block _ hszn]
          exact HI'.out
theorem info126' : (Tryd.prog.info? 126).map (fun i=>(i.zero,i.size))=some (some (.agg (Array.replicate 256 (.bool false))),256):=by kernel_rfl
/-- strings.IndexAny, of any string that is short enough. -/
theorem idxAny_bn (s:ByteArray) (w:World) (hs:s.size < 4294967281) :
    Calls Tryd.prog 74 #[.string s,.string ⟨#[32,10]⟩] w fun e w' => e = .returned (.int .i64 (Lib.indexAny s.data.toList [32,10]))∧Below w.heap.size w w' := by
  by_cases h8:s.size ≤ 8
  · exact idxAny_short s w h8
  · refine (Any.strings_IndexAny_long (P := Tryd.prog) (ρ := Tryd.laysAny_ren) { Tryd.laysAny with } (zero_of_info info126').1 (zero_of_info info126').2 s ⟨#[32, 10]⟩ w (by decide) (by omega) hs (by decide) (fun j b h => ?_)).mono fun e w' ⟨h1, h2⟩ => ⟨h1, ?_⟩
    · have hm : b ∈ [(32 : UInt8), 10] := List.mem_of_getElem? h
      simp only [List.mem_cons,List.not_mem_nil,or_false] at hm
      rcases hm with rfl | rfl <;> decide
    · rw [h2]
      exact ((Below.refl _ _).alloc (Nat.le_refl _) _).alloc (by simp) _
/-- strings.ContainsAny. -/
theorem containsAny_bn (s:ByteArray) (w:World) (hs:s.size < 4294967281) :
    Calls Tryd.prog 44 #[.string s,.string ⟨#[32,10]⟩] w fun e w' => e = .returned (.bool (Lib.containsAny s.data.toList [32,10]))∧Below w.heap.size w w' := by
  have c:=idxAny_bn s w hs
  go_enter Tryd.func44,Tryd.ntmps44
  go_wp2_with (go_at_call 74; refine c.mono ?_; rintro e w' ⟨rfl,hw⟩)
  go_ret
  exact ⟨rfl,hw⟩
end Go.Proofs.Lex
end
/- Lexicon: places in rows of structs; bytes; what lengths a machine bears. -/
section
open Go Go.Vm Go.Proofs
namespace Go.Proofs.Lex
abbrev big:Nat:=140737488355328
theorem w6_id {n:Int} (h0 : -9223372036854775808 ≤ n) (h1:n ≤ 9223372036854775807):w6 n=n:=by
  rw [w6,IntKind.wrap_i64]
  omega
/-- A counter's step. -/
theorem up {i n:Nat} (h:i < n) (hn:n ≤ big):(↑(i + 1):Int)=w6 ((↑i:Int) + 1):=by
  have h2:n ≤ 140737488355328:=hn
  rw [w6_id (by omega) (by omega)]
  omega
theorem at_rows {t e:TypeId} {σ:List Ob} {lk:LK} {n k:Nat} {cs:List AV} {i:Nat} (hu:Tryd.prog.underlying t=some (.slice e)) (he:Tryd.prog.cellsOf e=k) (hi:(Tryd.prog.info? e).isSome=true) (h:i < n) :
    keep σ (indexAddrv Tryd.prog t σ (.list lk n k cs) (i6 (↑i:Int)))=some (.eaddr (cs.drop (i * k)),σ):=by
  unfold indexAddrv
  rw [hu]
  simp only
  rw [if_pos ⟨by omega,by omega,he.symm,hi⟩]
  simp [keep]
theorem flat_drop {α:Type} {c:α→List AV} {k:Nat} (hc:∀ x,(c x).length=k):∀ (l:List α) (i:Nat) (h:i < l.length),(l.flatMap c).drop (i * k)=c l[i] ++ (l.drop (i + 1)).flatMap c
  | x::l,0,_=>by simp
  | x :: l, i + 1, h => by
    rw [List.flatMap_cons,Nat.succ_mul,Nat.add_comm,← List.drop_drop,List.drop_left' (hc x)]
    simpa using flat_drop hc l i (by simpa using h)
  | [],i,h=>by simp at h
theorem flat_len {α:Type} {c:α→List AV} {k:Nat} (hc:∀ x,(c x).length=k):∀ (l:List α),(l.flatMap c).length=l.length * k
  | []=>by simp
  | x::l=>by rw [List.flatMap_cons,List.length_append,hc,flat_len hc l,List.length_cons,Nat.succ_mul,Nat.add_comm]
def d0F:Feat:=⟨⟨#[]⟩,⟨#[]⟩⟩
def d0L:Lexm:=⟨⟨#[]⟩,⟨#[]⟩,⟨#[]⟩,⟨#[]⟩,[]⟩
def emp:ByteArray:=⟨#[]⟩
abbrev nF (F:List Feat) (i:Nat):Feat:=F.getD i d0F
abbrev nL (L:List Lexm) (i:Nat):Lexm:=L.getD i d0L
abbrev nS (l:List ByteArray) (i:Nat):ByteArray:=l.getD i emp
abbrev rF (F:List Feat) (i:Nat):List AV:=(F.flatMap featC).drop (i * 2)
abbrev rL (L:List Lexm) (i:Nat):List AV:=(L.flatMap lexC).drop (i * 5)
theorem getD_lt {α:Type} {l:List α} {i:Nat} {d:α} (h:i < l.length):l.getD i d=l[i]:=by
  rw [List.getD_eq_getElem?_getD,List.getElem?_eq_getElem h]; rfl
theorem featC_len (f:Feat):(featC f).length=2:=rfl
theorem lexC_len (x:Lexm):(lexC x).length=5:=rfl
theorem rF_eq {F:List Feat} {i:Nat} (h:i < F.length):rF F i=featC (nF F i) ++ (F.drop (i + 1)).flatMap featC:=by
  unfold rF nF
  rw [flat_drop featC_len F i h,getD_lt h]
theorem rL_eq {L:List Lexm} {i:Nat} (h:i < L.length):rL L i=lexC (nL L i) ++ (L.drop (i + 1)).flatMap lexC:=by
  unfold rL nL
  rw [flat_drop lexC_len L i h,getD_lt h]
def tF (F:List Feat) (i:Nat):List AV:=(F.drop (i + 1)).flatMap featC
def tL (L:List Lexm) (i:Nat):List AV:=(L.drop (i + 1)).flatMap lexC
def tS (l:List ByteArray) (i:Nat):List AV:=(l.drop (i + 1)).map .str
section
variable {σ:List Ob} {lk:LK}
theorem at_feat {F:List Feat} {i:Nat} (h:i < F.length):keep σ (indexAddrv Tryd.prog 31 σ (.list lk F.length 2 (F.flatMap featC)) (i6 (↑i:Int)))=some (.eaddr (st (nF F i).name::st (nF F i).value::tF F i),σ):=by
  rw [at_rows Tryd.underlying31 (by kernel_rfl) (by kernel_rfl) h]
  rw [show (F.flatMap featC).drop (i * 2)=rF F i from rfl,rF_eq h]
  rfl
theorem at_lex {L:List Lexm} {i:Nat} (h:i < L.length):keep σ (indexAddrv Tryd.prog 22 σ (.list lk L.length 5 (L.flatMap lexC)) (i6 (↑i:Int)))=some (.eaddr (st (nL L i).id::st (nL L i).cat::st (nL L i).stem::st (nL L i).par::lro (nL L i).feats.length 2 ((nL L i).feats.flatMap featC)::tL L i),σ):=by
  rw [at_rows Tryd.underlying22 (by kernel_rfl) (by kernel_rfl) h]
  rw [show (L.flatMap lexC).drop (i * 5)=rL L i from rfl,rL_eq h]
  rfl
theorem at_strs {l:List ByteArray} {i:Nat} (h:i < l.length):keep σ (indexAddrv Tryd.prog 25 σ (.list lk l.length 1 (l.map .str)) (i6 (↑i:Int)))=some (.eaddr (st (nS l i)::tS l i),σ):=by
  rw [at_rows (lk:=lk) (σ:=σ) (n:=l.length) (cs:=l.map .str) (i:=i) Tryd.underlying25 (k:=1) (by kernel_rfl) (by kernel_rfl) h,Nat.mul_one]
  have : (l.map AV.str).drop i = st (nS l i) :: tS l i := by
    rw [← List.map_drop,List.drop_eq_getElem_cons h,List.map_cons,nS,getD_lt h]
    rfl
  rw [this]
/-- The byte at a place. -/
def byteN (s:ByteArray) (i:Nat):Nat:=(s.data.getD i 0).toNat
theorem at_byte {s:ByteArray} {i:Nat} (h:i < s.size):keep σ (indexv Tryd.prog 9 (st s) (i6 (↑i:Int)))=some (.int .u8 (↑(byteN s i):Int),σ):=by
  have h' : i < s.data.size:=h
  unfold indexv
  rw [Tryd.underlying9]
  simp only
  rw [if_pos (by omega)]
  have e : s.data[(↑i : Int).toNat]? = some s.data[i] := by
    rw [Int.toNat_natCast,Array.getElem?_eq_getElem h']
  rw [e]
  simp only [keep,byteN,Array.getD,h',dite_true]
  rfl
end
end Go.Proofs.Lex
end
/- Lexicon: names, walked (printed) -/
section
open Go Go.Vm Go.Proofs
namespace Go.Proofs.Lex
def f43_F0 (s0:ByteArray)(i0:Nat):St :=
  stOf 39 [2,3,4,8,9,10,11,12,13,14,15,16,17,18,19,20,21,22,23,24,25,26,27,28,29,30,31,32,33,34,35,36] [(0,st s0),(5,st s0),(6,i6 (↑(ByteArray.size s0):Int)),(7,i6 (↑i0:Int))] []
def f43_S0 (s0:ByteArray):St :=
  stOf 39 [] [(0,st s0),(2,bo false),(5,st s0),(6,i6 (↑(ByteArray.size s0):Int)),(7,i6 0)] []
abbrev f43_D0:List Nat:=[36,2,35,34,33,32,31,30,29,28,27,26,25,24,23,22,21,20,19,18,17,16,15,14,13,4,12,11,10,3,9,8]
theorem f43_L0 (s0:ByteArray)(X:Ext)(call:Caller)(lf n:Nat)(x:Ex) (S' : St)
 (hn:n<lf)
 (hs:∀ j,j<n→∃ S1,vexec Tryd.prog X call lf 0 noFg (loopN Tryd.f43 0) (f43_F0 s0 j)=some (Ex.normal,S1)∧forget f43_D0 S1=(f43_F0 s0 (j + 1)))
 (he:vexec Tryd.prog X call lf 0 noFg (loopN Tryd.f43 0) (f43_F0 s0 n)=some (x,S'))
 (hx:x ≠ Ex.normal):vexec Tryd.prog X call lf 0 noFg (Go.Code.loop (loopN Tryd.f43 0)) (f43_S0 s0)=some (x,S') :=
  loop_runK (by kernel_rfl) (fun j=>(f43_F0 s0 j)) n hn (by show forget f43_D0 (f43_S0 s0)=(f43_F0 s0 0); unfold f43_F0; show _=_; kernel_rfl) hs he hx
theorem f43_s0_ttt (s0:ByteArray)(X:Ext)(call:Caller)(lf i0:Nat)(n12:Int)
 (h0:decide ((↑i0:Int)<(↑(ByteArray.size s0):Int))=true)
 (h1:keep [] (indexv Tryd.prog 9 (st s0) (i6 (↑i0:Int)))=some (AV.int IntKind.u8 n12,[]))
 (h2:decide (n12 ≥ 97)=true)
 (h3:decide (n12 ≤ 122)=true)
 (e0:(↑(i0 + 1):Int)=w6 ((↑i0:Int) + 1)):∃ S1,vexec Tryd.prog X call lf 0 noFg (loopN Tryd.f43 0) (f43_F0 s0 i0)=some (Ex.normal,S1)∧forget f43_D0 S1=(f43_F0 s0 (i0 + 1)) :=
  ⟨stOf 39 [2] [(0,st s0),(3,i6 (↑i0:Int)),(4,AV.int IntKind.u8 n12),(5,st s0),(6,i6 (↑(ByteArray.size s0):Int)),(7,i6 (w6 ((↑i0:Int) + 1))),(8,bo true),(9,i6 (↑i0:Int)),(10,st s0),(11,i6 (↑i0:Int)),(12,AV.int IntKind.u8 n12),(13,AV.int IntKind.u8 n12),(14,bo true),(15,bo true),(16,AV.int IntKind.u8 n12),(17,bo true),(18,bo true),(19,bo true),(26,bo true),(27,bo true),(30,bo true),(31,bo true),(34,bo true),(35,bo false),(36,i6 (w6 ((↑i0:Int) + 1)))] [],around_sound (ans:=[(1,Ans.b true),(9,Ans.v (AV.int IntKind.u8 n12)),(13,Ans.b true),(18,Ans.b true)]) (by kernel_rfl) (ai h0 (ai h1 (ai h2 (ai h3 trivial)))),by unfold f43_F0; rw [e0]; show _=_; kernel_rfl⟩
theorem f43_s0_ttftt (s0:ByteArray)(X:Ext)(call:Caller)(lf i0:Nat)(n12:Int)
 (h0:decide ((↑i0:Int)<(↑(ByteArray.size s0):Int))=true)
 (h1:keep [] (indexv Tryd.prog 9 (st s0) (i6 (↑i0:Int)))=some (AV.int IntKind.u8 n12,[]))
 (h2:decide (n12 ≥ 97)=true)
 (h3:decide (n12 ≤ 122)=false)
 (h4:decide (n12 ≥ 48)=true)
 (h5:decide (n12 ≤ 57)=true)
 (e0:(↑(i0 + 1):Int)=w6 ((↑i0:Int) + 1)):∃ S1,vexec Tryd.prog X call lf 0 noFg (loopN Tryd.f43 0) (f43_F0 s0 i0)=some (Ex.normal,S1)∧forget f43_D0 S1=(f43_F0 s0 (i0 + 1)) :=
  ⟨stOf 39 [2] [(0,st s0),(3,i6 (↑i0:Int)),(4,AV.int IntKind.u8 n12),(5,st s0),(6,i6 (↑(ByteArray.size s0):Int)),(7,i6 (w6 ((↑i0:Int) + 1))),(8,bo true),(9,i6 (↑i0:Int)),(10,st s0),(11,i6 (↑i0:Int)),(12,AV.int IntKind.u8 n12),(13,AV.int IntKind.u8 n12),(14,bo true),(15,bo true),(16,AV.int IntKind.u8 n12),(17,bo false),(18,bo false),(19,bo false),(20,AV.int IntKind.u8 n12),(21,bo true),(22,bo true),(23,AV.int IntKind.u8 n12),(24,bo true),(25,bo true),(26,bo true),(27,bo true),(30,bo true),(31,bo true),(34,bo true),(35,bo false),(36,i6 (w6 ((↑i0:Int) + 1)))] [],around_sound (ans:=[(1,Ans.b true),(9,Ans.v (AV.int IntKind.u8 n12)),(13,Ans.b true),(18,Ans.b false),(24,Ans.b true),(30,Ans.b true)]) (by kernel_rfl) (ai h0 (ai h1 (ai h2 (ai h3 (ai h4 (ai h5 trivial)))))),by unfold f43_F0; rw [e0]; show _=_; kernel_rfl⟩
theorem f43_s0_ttftft (s0:ByteArray)(X:Ext)(call:Caller)(lf i0:Nat)(n12:Int)
 (h0:decide ((↑i0:Int)<(↑(ByteArray.size s0):Int))=true)
 (h1:keep [] (indexv Tryd.prog 9 (st s0) (i6 (↑i0:Int)))=some (AV.int IntKind.u8 n12,[]))
 (h2:decide (n12 ≥ 97)=true)
 (h3:decide (n12 ≤ 122)=false)
 (h4:decide (n12 ≥ 48)=true)
 (h5:decide (n12 ≤ 57)=false)
 (h6:(n12 == 45)=true)
 (e0:(↑(i0 + 1):Int)=w6 ((↑i0:Int) + 1)):∃ S1,vexec Tryd.prog X call lf 0 noFg (loopN Tryd.f43 0) (f43_F0 s0 i0)=some (Ex.normal,S1)∧forget f43_D0 S1=(f43_F0 s0 (i0 + 1)) :=
  ⟨stOf 39 [2] [(0,st s0),(3,i6 (↑i0:Int)),(4,AV.int IntKind.u8 n12),(5,st s0),(6,i6 (↑(ByteArray.size s0):Int)),(7,i6 (w6 ((↑i0:Int) + 1))),(8,bo true),(9,i6 (↑i0:Int)),(10,st s0),(11,i6 (↑i0:Int)),(12,AV.int IntKind.u8 n12),(13,AV.int IntKind.u8 n12),(14,bo true),(15,bo true),(16,AV.int IntKind.u8 n12),(17,bo false),(18,bo false),(19,bo false),(20,AV.int IntKind.u8 n12),(21,bo true),(22,bo true),(23,AV.int IntKind.u8 n12),(24,bo false),(25,bo false),(26,bo false),(27,bo false),(28,AV.int IntKind.u8 n12),(29,bo true),(30,bo true),(31,bo true),(34,bo true),(35,bo false),(36,i6 (w6 ((↑i0:Int) + 1)))] [],around_sound (ans:=[(1,Ans.b true),(9,Ans.v (AV.int IntKind.u8 n12)),(13,Ans.b true),(18,Ans.b false),(24,Ans.b true),(30,Ans.b false),(38,Ans.b true)]) (by kernel_rfl) (ai h0 (ai h1 (ai h2 (ai h3 (ai h4 (ai h5 (ai h6 trivial))))))),by unfold f43_F0; rw [e0]; show _=_; kernel_rfl⟩
theorem f43_s0_ttftfft (s0:ByteArray)(X:Ext)(call:Caller)(lf i0:Nat)(n12:Int)
 (h0:decide ((↑i0:Int)<(↑(ByteArray.size s0):Int))=true)
 (h1:keep [] (indexv Tryd.prog 9 (st s0) (i6 (↑i0:Int)))=some (AV.int IntKind.u8 n12,[]))
 (h2:decide (n12 ≥ 97)=true)
 (h3:decide (n12 ≤ 122)=false)
 (h4:decide (n12 ≥ 48)=true)
 (h5:decide (n12 ≤ 57)=false)
 (h6:(n12 == 45)=false)
 (h7:(n12 == 95)=true)
 (e0:(↑(i0 + 1):Int)=w6 ((↑i0:Int) + 1)):∃ S1,vexec Tryd.prog X call lf 0 noFg (loopN Tryd.f43 0) (f43_F0 s0 i0)=some (Ex.normal,S1)∧forget f43_D0 S1=(f43_F0 s0 (i0 + 1)) :=
  ⟨stOf 39 [2] [(0,st s0),(3,i6 (↑i0:Int)),(4,AV.int IntKind.u8 n12),(5,st s0),(6,i6 (↑(ByteArray.size s0):Int)),(7,i6 (w6 ((↑i0:Int) + 1))),(8,bo true),(9,i6 (↑i0:Int)),(10,st s0),(11,i6 (↑i0:Int)),(12,AV.int IntKind.u8 n12),(13,AV.int IntKind.u8 n12),(14,bo true),(15,bo true),(16,AV.int IntKind.u8 n12),(17,bo false),(18,bo false),(19,bo false),(20,AV.int IntKind.u8 n12),(21,bo true),(22,bo true),(23,AV.int IntKind.u8 n12),(24,bo false),(25,bo false),(26,bo false),(27,bo false),(28,AV.int IntKind.u8 n12),(29,bo false),(30,bo false),(31,bo false),(32,AV.int IntKind.u8 n12),(33,bo true),(34,bo true),(35,bo false),(36,i6 (w6 ((↑i0:Int) + 1)))] [],around_sound (ans:=[(1,Ans.b true),(9,Ans.v (AV.int IntKind.u8 n12)),(13,Ans.b true),(18,Ans.b false),(24,Ans.b true),(30,Ans.b false),(38,Ans.b false),(44,Ans.b true)]) (by kernel_rfl) (ai h0 (ai h1 (ai h2 (ai h3 (ai h4 (ai h5 (ai h6 (ai h7 trivial)))))))),by unfold f43_F0; rw [e0]; show _=_; kernel_rfl⟩
def f43_S1 (s0:ByteArray)(i0:Nat)(n12:Int):St :=
  stOf 39 [36] [(0,st s0),(2,bo false),(3,i6 (↑i0:Int)),(4,AV.int IntKind.u8 n12),(5,st s0),(6,i6 (↑(ByteArray.size s0):Int)),(7,i6 (↑i0:Int)),(8,bo true),(9,i6 (↑i0:Int)),(10,st s0),(11,i6 (↑i0:Int)),(12,AV.int IntKind.u8 n12),(13,AV.int IntKind.u8 n12),(14,bo true),(15,bo true),(16,AV.int IntKind.u8 n12),(17,bo false),(18,bo false),(19,bo false),(20,AV.int IntKind.u8 n12),(21,bo true),(22,bo true),(23,AV.int IntKind.u8 n12),(24,bo false),(25,bo false),(26,bo false),(27,bo false),(28,AV.int IntKind.u8 n12),(29,bo false),(30,bo false),(31,bo false),(32,AV.int IntKind.u8 n12),(33,bo false),(34,bo false),(35,bo true)] []
theorem f43_r0_ttftfff (s0:ByteArray)(X:Ext)(call:Caller)(lf i0:Nat)(n12:Int)
 (h0:decide ((↑i0:Int)<(↑(ByteArray.size s0):Int))=true)
 (h1:keep [] (indexv Tryd.prog 9 (st s0) (i6 (↑i0:Int)))=some (AV.int IntKind.u8 n12,[]))
 (h2:decide (n12 ≥ 97)=true)
 (h3:decide (n12 ≤ 122)=false)
 (h4:decide (n12 ≥ 48)=true)
 (h5:decide (n12 ≤ 57)=false)
 (h6:(n12 == 45)=false)
 (h7:(n12 == 95)=false):vexec Tryd.prog X call lf 0 noFg (loopN Tryd.f43 0) (f43_F0 s0 i0)=some (Ex.ret,(f43_S1 s0 i0 n12)) :=
  around_sound (ans:=[(1,Ans.b true),(9,Ans.v (AV.int IntKind.u8 n12)),(13,Ans.b true),(18,Ans.b false),(24,Ans.b true),(30,Ans.b false),(38,Ans.b false),(44,Ans.b false)]) (by kernel_rfl) (ai h0 (ai h1 (ai h2 (ai h3 (ai h4 (ai h5 (ai h6 (ai h7 trivial))))))))
theorem f43_plttftfff (s0:ByteArray)(X:Ext)(call:Caller)(lf i0:Nat)(n12:Int)
 (h0:vexec Tryd.prog X call lf 0 noFg (Code.loop (loopN Tryd.f43 0)) (f43_S0 s0)=some (Ex.ret,(f43_S1 s0 i0 n12))):vbody Tryd.prog X call lf noFg Tryd.f43 (codeOf Tryd.f43) [st s0] [] 0=some (bo false,[]) :=
  along_sound (ans:=[(6,Ans.l Ex.ret (f43_S1 s0 i0 n12))]) (by kernel_rfl) (ai h0 trivial)
theorem f43_s0_ttfft (s0:ByteArray)(X:Ext)(call:Caller)(lf i0:Nat)(n12:Int)
 (h0:decide ((↑i0:Int)<(↑(ByteArray.size s0):Int))=true)
 (h1:keep [] (indexv Tryd.prog 9 (st s0) (i6 (↑i0:Int)))=some (AV.int IntKind.u8 n12,[]))
 (h2:decide (n12 ≥ 97)=true)
 (h3:decide (n12 ≤ 122)=false)
 (h4:decide (n12 ≥ 48)=false)
 (h5:(n12 == 45)=true)
 (e0:(↑(i0 + 1):Int)=w6 ((↑i0:Int) + 1)):∃ S1,vexec Tryd.prog X call lf 0 noFg (loopN Tryd.f43 0) (f43_F0 s0 i0)=some (Ex.normal,S1)∧forget f43_D0 S1=(f43_F0 s0 (i0 + 1)) :=
  ⟨stOf 39 [2] [(0,st s0),(3,i6 (↑i0:Int)),(4,AV.int IntKind.u8 n12),(5,st s0),(6,i6 (↑(ByteArray.size s0):Int)),(7,i6 (w6 ((↑i0:Int) + 1))),(8,bo true),(9,i6 (↑i0:Int)),(10,st s0),(11,i6 (↑i0:Int)),(12,AV.int IntKind.u8 n12),(13,AV.int IntKind.u8 n12),(14,bo true),(15,bo true),(16,AV.int IntKind.u8 n12),(17,bo false),(18,bo false),(19,bo false),(20,AV.int IntKind.u8 n12),(21,bo false),(22,bo false),(25,bo false),(26,bo false),(27,bo false),(28,AV.int IntKind.u8 n12),(29,bo true),(30,bo true),(31,bo true),(34,bo true),(35,bo false),(36,i6 (w6 ((↑i0:Int) + 1)))] [],around_sound (ans:=[(1,Ans.b true),(9,Ans.v (AV.int IntKind.u8 n12)),(13,Ans.b true),(18,Ans.b false),(24,Ans.b false),(36,Ans.b true)]) (by kernel_rfl) (ai h0 (ai h1 (ai h2 (ai h3 (ai h4 (ai h5 trivial)))))),by unfold f43_F0; rw [e0]; show _=_; kernel_rfl⟩
theorem f43_s0_ttffft (s0:ByteArray)(X:Ext)(call:Caller)(lf i0:Nat)(n12:Int)
 (h0:decide ((↑i0:Int)<(↑(ByteArray.size s0):Int))=true)
 (h1:keep [] (indexv Tryd.prog 9 (st s0) (i6 (↑i0:Int)))=some (AV.int IntKind.u8 n12,[]))
 (h2:decide (n12 ≥ 97)=true)
 (h3:decide (n12 ≤ 122)=false)
 (h4:decide (n12 ≥ 48)=false)
 (h5:(n12 == 45)=false)
 (h6:(n12 == 95)=true)
 (e0:(↑(i0 + 1):Int)=w6 ((↑i0:Int) + 1)):∃ S1,vexec Tryd.prog X call lf 0 noFg (loopN Tryd.f43 0) (f43_F0 s0 i0)=some (Ex.normal,S1)∧forget f43_D0 S1=(f43_F0 s0 (i0 + 1)) :=
  ⟨stOf 39 [2] [(0,st s0),(3,i6 (↑i0:Int)),(4,AV.int IntKind.u8 n12),(5,st s0),(6,i6 (↑(ByteArray.size s0):Int)),(7,i6 (w6 ((↑i0:Int) + 1))),(8,bo true),(9,i6 (↑i0:Int)),(10,st s0),(11,i6 (↑i0:Int)),(12,AV.int IntKind.u8 n12),(13,AV.int IntKind.u8 n12),(14,bo true),(15,bo true),(16,AV.int IntKind.u8 n12),(17,bo false),(18,bo false),(19,bo false),(20,AV.int IntKind.u8 n12),(21,bo false),(22,bo false),(25,bo false),(26,bo false),(27,bo false),(28,AV.int IntKind.u8 n12),(29,bo false),(30,bo false),(31,bo false),(32,AV.int IntKind.u8 n12),(33,bo true),(34,bo true),(35,bo false),(36,i6 (w6 ((↑i0:Int) + 1)))] [],around_sound (ans:=[(1,Ans.b true),(9,Ans.v (AV.int IntKind.u8 n12)),(13,Ans.b true),(18,Ans.b false),(24,Ans.b false),(36,Ans.b false),(42,Ans.b true)]) (by kernel_rfl) (ai h0 (ai h1 (ai h2 (ai h3 (ai h4 (ai h5 (ai h6 trivial))))))),by unfold f43_F0; rw [e0]; show _=_; kernel_rfl⟩
def f43_S2 (s0:ByteArray)(i0:Nat)(n12:Int):St :=
  stOf 39 [36] [(0,st s0),(2,bo false),(3,i6 (↑i0:Int)),(4,AV.int IntKind.u8 n12),(5,st s0),(6,i6 (↑(ByteArray.size s0):Int)),(7,i6 (↑i0:Int)),(8,bo true),(9,i6 (↑i0:Int)),(10,st s0),(11,i6 (↑i0:Int)),(12,AV.int IntKind.u8 n12),(13,AV.int IntKind.u8 n12),(14,bo true),(15,bo true),(16,AV.int IntKind.u8 n12),(17,bo false),(18,bo false),(19,bo false),(20,AV.int IntKind.u8 n12),(21,bo false),(22,bo false),(25,bo false),(26,bo false),(27,bo false),(28,AV.int IntKind.u8 n12),(29,bo false),(30,bo false),(31,bo false),(32,AV.int IntKind.u8 n12),(33,bo false),(34,bo false),(35,bo true)] []
theorem f43_r0_ttffff (s0:ByteArray)(X:Ext)(call:Caller)(lf i0:Nat)(n12:Int)
 (h0:decide ((↑i0:Int)<(↑(ByteArray.size s0):Int))=true)
 (h1:keep [] (indexv Tryd.prog 9 (st s0) (i6 (↑i0:Int)))=some (AV.int IntKind.u8 n12,[]))
 (h2:decide (n12 ≥ 97)=true)
 (h3:decide (n12 ≤ 122)=false)
 (h4:decide (n12 ≥ 48)=false)
 (h5:(n12 == 45)=false)
 (h6:(n12 == 95)=false):vexec Tryd.prog X call lf 0 noFg (loopN Tryd.f43 0) (f43_F0 s0 i0)=some (Ex.ret,(f43_S2 s0 i0 n12)) :=
  around_sound (ans:=[(1,Ans.b true),(9,Ans.v (AV.int IntKind.u8 n12)),(13,Ans.b true),(18,Ans.b false),(24,Ans.b false),(36,Ans.b false),(42,Ans.b false)]) (by kernel_rfl) (ai h0 (ai h1 (ai h2 (ai h3 (ai h4 (ai h5 (ai h6 trivial)))))))
theorem f43_plttffff (s0:ByteArray)(X:Ext)(call:Caller)(lf i0:Nat)(n12:Int)
 (h0:vexec Tryd.prog X call lf 0 noFg (Code.loop (loopN Tryd.f43 0)) (f43_S0 s0)=some (Ex.ret,(f43_S2 s0 i0 n12))):vbody Tryd.prog X call lf noFg Tryd.f43 (codeOf Tryd.f43) [st s0] [] 0=some (bo false,[]) :=
  along_sound (ans:=[(6,Ans.l Ex.ret (f43_S2 s0 i0 n12))]) (by kernel_rfl) (ai h0 trivial)
theorem f43_s0_tftt (s0:ByteArray)(X:Ext)(call:Caller)(lf i0:Nat)(n12:Int)
 (h0:decide ((↑i0:Int)<(↑(ByteArray.size s0):Int))=true)
 (h1:keep [] (indexv Tryd.prog 9 (st s0) (i6 (↑i0:Int)))=some (AV.int IntKind.u8 n12,[]))
 (h2:decide (n12 ≥ 97)=false)
 (h3:decide (n12 ≥ 48)=true)
 (h4:decide (n12 ≤ 57)=true)
 (e0:(↑(i0 + 1):Int)=w6 ((↑i0:Int) + 1)):∃ S1,vexec Tryd.prog X call lf 0 noFg (loopN Tryd.f43 0) (f43_F0 s0 i0)=some (Ex.normal,S1)∧forget f43_D0 S1=(f43_F0 s0 (i0 + 1)) :=
  ⟨stOf 39 [2] [(0,st s0),(3,i6 (↑i0:Int)),(4,AV.int IntKind.u8 n12),(5,st s0),(6,i6 (↑(ByteArray.size s0):Int)),(7,i6 (w6 ((↑i0:Int) + 1))),(8,bo true),(9,i6 (↑i0:Int)),(10,st s0),(11,i6 (↑i0:Int)),(12,AV.int IntKind.u8 n12),(13,AV.int IntKind.u8 n12),(14,bo false),(15,bo false),(18,bo false),(19,bo false),(20,AV.int IntKind.u8 n12),(21,bo true),(22,bo true),(23,AV.int IntKind.u8 n12),(24,bo true),(25,bo true),(26,bo true),(27,bo true),(30,bo true),(31,bo true),(34,bo true),(35,bo false),(36,i6 (w6 ((↑i0:Int) + 1)))] [],around_sound (ans:=[(1,Ans.b true),(9,Ans.v (AV.int IntKind.u8 n12)),(13,Ans.b false),(22,Ans.b true),(28,Ans.b true)]) (by kernel_rfl) (ai h0 (ai h1 (ai h2 (ai h3 (ai h4 trivial))))),by unfold f43_F0; rw [e0]; show _=_; kernel_rfl⟩
theorem f43_s0_tftft (s0:ByteArray)(X:Ext)(call:Caller)(lf i0:Nat)(n12:Int)
 (h0:decide ((↑i0:Int)<(↑(ByteArray.size s0):Int))=true)
 (h1:keep [] (indexv Tryd.prog 9 (st s0) (i6 (↑i0:Int)))=some (AV.int IntKind.u8 n12,[]))
 (h2:decide (n12 ≥ 97)=false)
 (h3:decide (n12 ≥ 48)=true)
 (h4:decide (n12 ≤ 57)=false)
 (h5:(n12 == 45)=true)
 (e0:(↑(i0 + 1):Int)=w6 ((↑i0:Int) + 1)):∃ S1,vexec Tryd.prog X call lf 0 noFg (loopN Tryd.f43 0) (f43_F0 s0 i0)=some (Ex.normal,S1)∧forget f43_D0 S1=(f43_F0 s0 (i0 + 1)) :=
  ⟨stOf 39 [2] [(0,st s0),(3,i6 (↑i0:Int)),(4,AV.int IntKind.u8 n12),(5,st s0),(6,i6 (↑(ByteArray.size s0):Int)),(7,i6 (w6 ((↑i0:Int) + 1))),(8,bo true),(9,i6 (↑i0:Int)),(10,st s0),(11,i6 (↑i0:Int)),(12,AV.int IntKind.u8 n12),(13,AV.int IntKind.u8 n12),(14,bo false),(15,bo false),(18,bo false),(19,bo false),(20,AV.int IntKind.u8 n12),(21,bo true),(22,bo true),(23,AV.int IntKind.u8 n12),(24,bo false),(25,bo false),(26,bo false),(27,bo false),(28,AV.int IntKind.u8 n12),(29,bo true),(30,bo true),(31,bo true),(34,bo true),(35,bo false),(36,i6 (w6 ((↑i0:Int) + 1)))] [],around_sound (ans:=[(1,Ans.b true),(9,Ans.v (AV.int IntKind.u8 n12)),(13,Ans.b false),(22,Ans.b true),(28,Ans.b false),(36,Ans.b true)]) (by kernel_rfl) (ai h0 (ai h1 (ai h2 (ai h3 (ai h4 (ai h5 trivial)))))),by unfold f43_F0; rw [e0]; show _=_; kernel_rfl⟩
theorem f43_s0_tftfft (s0:ByteArray)(X:Ext)(call:Caller)(lf i0:Nat)(n12:Int)
 (h0:decide ((↑i0:Int)<(↑(ByteArray.size s0):Int))=true)
 (h1:keep [] (indexv Tryd.prog 9 (st s0) (i6 (↑i0:Int)))=some (AV.int IntKind.u8 n12,[]))
 (h2:decide (n12 ≥ 97)=false)
 (h3:decide (n12 ≥ 48)=true)
 (h4:decide (n12 ≤ 57)=false)
 (h5:(n12 == 45)=false)
 (h6:(n12 == 95)=true)
 (e0:(↑(i0 + 1):Int)=w6 ((↑i0:Int) + 1)):∃ S1,vexec Tryd.prog X call lf 0 noFg (loopN Tryd.f43 0) (f43_F0 s0 i0)=some (Ex.normal,S1)∧forget f43_D0 S1=(f43_F0 s0 (i0 + 1)) :=
  ⟨stOf 39 [2] [(0,st s0),(3,i6 (↑i0:Int)),(4,AV.int IntKind.u8 n12),(5,st s0),(6,i6 (↑(ByteArray.size s0):Int)),(7,i6 (w6 ((↑i0:Int) + 1))),(8,bo true),(9,i6 (↑i0:Int)),(10,st s0),(11,i6 (↑i0:Int)),(12,AV.int IntKind.u8 n12),(13,AV.int IntKind.u8 n12),(14,bo false),(15,bo false),(18,bo false),(19,bo false),(20,AV.int IntKind.u8 n12),(21,bo true),(22,bo true),(23,AV.int IntKind.u8 n12),(24,bo false),(25,bo false),(26,bo false),(27,bo false),(28,AV.int IntKind.u8 n12),(29,bo false),(30,bo false),(31,bo false),(32,AV.int IntKind.u8 n12),(33,bo true),(34,bo true),(35,bo false),(36,i6 (w6 ((↑i0:Int) + 1)))] [],around_sound (ans:=[(1,Ans.b true),(9,Ans.v (AV.int IntKind.u8 n12)),(13,Ans.b false),(22,Ans.b true),(28,Ans.b false),(36,Ans.b false),(42,Ans.b true)]) (by kernel_rfl) (ai h0 (ai h1 (ai h2 (ai h3 (ai h4 (ai h5 (ai h6 trivial))))))),by unfold f43_F0; rw [e0]; show _=_; kernel_rfl⟩
def f43_S3 (s0:ByteArray)(i0:Nat)(n12:Int):St :=
  stOf 39 [36] [(0,st s0),(2,bo false),(3,i6 (↑i0:Int)),(4,AV.int IntKind.u8 n12),(5,st s0),(6,i6 (↑(ByteArray.size s0):Int)),(7,i6 (↑i0:Int)),(8,bo true),(9,i6 (↑i0:Int)),(10,st s0),(11,i6 (↑i0:Int)),(12,AV.int IntKind.u8 n12),(13,AV.int IntKind.u8 n12),(14,bo false),(15,bo false),(18,bo false),(19,bo false),(20,AV.int IntKind.u8 n12),(21,bo true),(22,bo true),(23,AV.int IntKind.u8 n12),(24,bo false),(25,bo false),(26,bo false),(27,bo false),(28,AV.int IntKind.u8 n12),(29,bo false),(30,bo false),(31,bo false),(32,AV.int IntKind.u8 n12),(33,bo false),(34,bo false),(35,bo true)] []
theorem f43_r0_tftfff (s0:ByteArray)(X:Ext)(call:Caller)(lf i0:Nat)(n12:Int)
 (h0:decide ((↑i0:Int)<(↑(ByteArray.size s0):Int))=true)
 (h1:keep [] (indexv Tryd.prog 9 (st s0) (i6 (↑i0:Int)))=some (AV.int IntKind.u8 n12,[]))
 (h2:decide (n12 ≥ 97)=false)
 (h3:decide (n12 ≥ 48)=true)
 (h4:decide (n12 ≤ 57)=false)
 (h5:(n12 == 45)=false)
 (h6:(n12 == 95)=false):vexec Tryd.prog X call lf 0 noFg (loopN Tryd.f43 0) (f43_F0 s0 i0)=some (Ex.ret,(f43_S3 s0 i0 n12)) :=
  around_sound (ans:=[(1,Ans.b true),(9,Ans.v (AV.int IntKind.u8 n12)),(13,Ans.b false),(22,Ans.b true),(28,Ans.b false),(36,Ans.b false),(42,Ans.b false)]) (by kernel_rfl) (ai h0 (ai h1 (ai h2 (ai h3 (ai h4 (ai h5 (ai h6 trivial)))))))
theorem f43_pltftfff (s0:ByteArray)(X:Ext)(call:Caller)(lf i0:Nat)(n12:Int)
 (h0:vexec Tryd.prog X call lf 0 noFg (Code.loop (loopN Tryd.f43 0)) (f43_S0 s0)=some (Ex.ret,(f43_S3 s0 i0 n12))):vbody Tryd.prog X call lf noFg Tryd.f43 (codeOf Tryd.f43) [st s0] [] 0=some (bo false,[]) :=
  along_sound (ans:=[(6,Ans.l Ex.ret (f43_S3 s0 i0 n12))]) (by kernel_rfl) (ai h0 trivial)
theorem f43_s0_tfft (s0:ByteArray)(X:Ext)(call:Caller)(lf i0:Nat)(n12:Int)
 (h0:decide ((↑i0:Int)<(↑(ByteArray.size s0):Int))=true)
 (h1:keep [] (indexv Tryd.prog 9 (st s0) (i6 (↑i0:Int)))=some (AV.int IntKind.u8 n12,[]))
 (h2:decide (n12 ≥ 97)=false)
 (h3:decide (n12 ≥ 48)=false)
 (h4:(n12 == 45)=true)
 (e0:(↑(i0 + 1):Int)=w6 ((↑i0:Int) + 1)):∃ S1,vexec Tryd.prog X call lf 0 noFg (loopN Tryd.f43 0) (f43_F0 s0 i0)=some (Ex.normal,S1)∧forget f43_D0 S1=(f43_F0 s0 (i0 + 1)) :=
  ⟨stOf 39 [2] [(0,st s0),(3,i6 (↑i0:Int)),(4,AV.int IntKind.u8 n12),(5,st s0),(6,i6 (↑(ByteArray.size s0):Int)),(7,i6 (w6 ((↑i0:Int) + 1))),(8,bo true),(9,i6 (↑i0:Int)),(10,st s0),(11,i6 (↑i0:Int)),(12,AV.int IntKind.u8 n12),(13,AV.int IntKind.u8 n12),(14,bo false),(15,bo false),(18,bo false),(19,bo false),(20,AV.int IntKind.u8 n12),(21,bo false),(22,bo false),(25,bo false),(26,bo false),(27,bo false),(28,AV.int IntKind.u8 n12),(29,bo true),(30,bo true),(31,bo true),(34,bo true),(35,bo false),(36,i6 (w6 ((↑i0:Int) + 1)))] [],around_sound (ans:=[(1,Ans.b true),(9,Ans.v (AV.int IntKind.u8 n12)),(13,Ans.b false),(22,Ans.b false),(34,Ans.b true)]) (by kernel_rfl) (ai h0 (ai h1 (ai h2 (ai h3 (ai h4 trivial))))),by unfold f43_F0; rw [e0]; show _=_; kernel_rfl⟩
theorem f43_s0_tffft (s0:ByteArray)(X:Ext)(call:Caller)(lf i0:Nat)(n12:Int)
 (h0:decide ((↑i0:Int)<(↑(ByteArray.size s0):Int))=true)
 (h1:keep [] (indexv Tryd.prog 9 (st s0) (i6 (↑i0:Int)))=some (AV.int IntKind.u8 n12,[]))
 (h2:decide (n12 ≥ 97)=false)
 (h3:decide (n12 ≥ 48)=false)
 (h4:(n12 == 45)=false)
 (h5:(n12 == 95)=true)
 (e0:(↑(i0 + 1):Int)=w6 ((↑i0:Int) + 1)):∃ S1,vexec Tryd.prog X call lf 0 noFg (loopN Tryd.f43 0) (f43_F0 s0 i0)=some (Ex.normal,S1)∧forget f43_D0 S1=(f43_F0 s0 (i0 + 1)) :=
  ⟨stOf 39 [2] [(0,st s0),(3,i6 (↑i0:Int)),(4,AV.int IntKind.u8 n12),(5,st s0),(6,i6 (↑(ByteArray.size s0):Int)),(7,i6 (w6 ((↑i0:Int) + 1))),(8,bo true),(9,i6 (↑i0:Int)),(10,st s0),(11,i6 (↑i0:Int)),(12,AV.int IntKind.u8 n12),(13,AV.int IntKind.u8 n12),(14,bo false),(15,bo false),(18,bo false),(19,bo false),(20,AV.int IntKind.u8 n12),(21,bo false),(22,bo false),(25,bo false),(26,bo false),(27,bo false),(28,AV.int IntKind.u8 n12),(29,bo false),(30,bo false),(31,bo false),(32,AV.int IntKind.u8 n12),(33,bo true),(34,bo true),(35,bo false),(36,i6 (w6 ((↑i0:Int) + 1)))] [],around_sound (ans:=[(1,Ans.b true),(9,Ans.v (AV.int IntKind.u8 n12)),(13,Ans.b false),(22,Ans.b false),(34,Ans.b false),(40,Ans.b true)]) (by kernel_rfl) (ai h0 (ai h1 (ai h2 (ai h3 (ai h4 (ai h5 trivial)))))),by unfold f43_F0; rw [e0]; show _=_; kernel_rfl⟩
def f43_S4 (s0:ByteArray)(i0:Nat)(n12:Int):St :=
  stOf 39 [36] [(0,st s0),(2,bo false),(3,i6 (↑i0:Int)),(4,AV.int IntKind.u8 n12),(5,st s0),(6,i6 (↑(ByteArray.size s0):Int)),(7,i6 (↑i0:Int)),(8,bo true),(9,i6 (↑i0:Int)),(10,st s0),(11,i6 (↑i0:Int)),(12,AV.int IntKind.u8 n12),(13,AV.int IntKind.u8 n12),(14,bo false),(15,bo false),(18,bo false),(19,bo false),(20,AV.int IntKind.u8 n12),(21,bo false),(22,bo false),(25,bo false),(26,bo false),(27,bo false),(28,AV.int IntKind.u8 n12),(29,bo false),(30,bo false),(31,bo false),(32,AV.int IntKind.u8 n12),(33,bo false),(34,bo false),(35,bo true)] []
theorem f43_r0_tffff (s0:ByteArray)(X:Ext)(call:Caller)(lf i0:Nat)(n12:Int)
 (h0:decide ((↑i0:Int)<(↑(ByteArray.size s0):Int))=true)
 (h1:keep [] (indexv Tryd.prog 9 (st s0) (i6 (↑i0:Int)))=some (AV.int IntKind.u8 n12,[]))
 (h2:decide (n12 ≥ 97)=false)
 (h3:decide (n12 ≥ 48)=false)
 (h4:(n12 == 45)=false)
 (h5:(n12 == 95)=false):vexec Tryd.prog X call lf 0 noFg (loopN Tryd.f43 0) (f43_F0 s0 i0)=some (Ex.ret,(f43_S4 s0 i0 n12)) :=
  around_sound (ans:=[(1,Ans.b true),(9,Ans.v (AV.int IntKind.u8 n12)),(13,Ans.b false),(22,Ans.b false),(34,Ans.b false),(40,Ans.b false)]) (by kernel_rfl) (ai h0 (ai h1 (ai h2 (ai h3 (ai h4 (ai h5 trivial))))))
theorem f43_pltffff (s0:ByteArray)(X:Ext)(call:Caller)(lf i0:Nat)(n12:Int)
 (h0:vexec Tryd.prog X call lf 0 noFg (Code.loop (loopN Tryd.f43 0)) (f43_S0 s0)=some (Ex.ret,(f43_S4 s0 i0 n12))):vbody Tryd.prog X call lf noFg Tryd.f43 (codeOf Tryd.f43) [st s0] [] 0=some (bo false,[]) :=
  along_sound (ans:=[(6,Ans.l Ex.ret (f43_S4 s0 i0 n12))]) (by kernel_rfl) (ai h0 trivial)
def f43_S5 (s0:ByteArray)(i0:Nat):St :=
  stOf 39 [2,3,4,9,10,11,12,13,14,15,16,17,18,19,20,21,22,23,24,25,26,27,28,29,30,31,32,33,34,35,36] [(0,st s0),(5,st s0),(6,i6 (↑(ByteArray.size s0):Int)),(7,i6 (↑i0:Int)),(8,bo false)] []
theorem f43_r0_f (s0:ByteArray)(X:Ext)(call:Caller)(lf i0:Nat)
 (h0:decide ((↑i0:Int)<(↑(ByteArray.size s0):Int))=false):vexec Tryd.prog X call lf 0 noFg (loopN Tryd.f43 0) (f43_F0 s0 i0)=some (Ex.exit 0,(f43_S5 s0 i0)) :=
  around_sound (ans:=[(1,Ans.b false)]) (by kernel_rfl) (ai h0 trivial)
theorem f43_plft (s0:ByteArray)(X:Ext)(call:Caller)(lf i0:Nat)
 (h0:vexec Tryd.prog X call lf 0 noFg (Code.loop (loopN Tryd.f43 0)) (f43_S0 s0)=some (Ex.exit 0,(f43_S5 s0 i0)))
 (h1:(!ByteArray.toList s0 == ByteArray.toList (ByteArray.mk #[]))=true):vbody Tryd.prog X call lf noFg Tryd.f43 (codeOf Tryd.f43) [st s0] [] 0=some (bo true,[]) :=
  along_sound (ans:=[(6,Ans.l (Ex.exit 0) (f43_S5 s0 i0)),(9,Ans.b true)]) (by kernel_rfl) (ai h0 (ai h1 trivial))
theorem f43_plff (s0:ByteArray)(X:Ext)(call:Caller)(lf i0:Nat)
 (h0:vexec Tryd.prog X call lf 0 noFg (Code.loop (loopN Tryd.f43 0)) (f43_S0 s0)=some (Ex.exit 0,(f43_S5 s0 i0)))
 (h1:(!ByteArray.toList s0 == ByteArray.toList (ByteArray.mk #[]))=false):vbody Tryd.prog X call lf noFg Tryd.f43 (codeOf Tryd.f43) [st s0] [] 0=some (bo false,[]) :=
  along_sound (ans:=[(6,Ans.l (Ex.exit 0) (f43_S5 s0 i0)),(9,Ans.b false)]) (by kernel_rfl) (ai h0 (ai h1 trivial))
def f43_o0 (s0:ByteArray)(i0:Nat)(n12:Int):Nat :=
  (match decide ((↑i0:Int)<(↑(ByteArray.size s0):Int)) with
  | true=>(match decide (n12 ≥ 97) with
    | true=>(match decide (n12 ≤ 122) with
      | true=>0
      | false=>(match decide (n12 ≥ 48) with
        | true=>(match decide (n12 ≤ 57) with
          | true=>0
          | false=>(match (n12 == 45) with
            | true=>0
            | false=>(match (n12 == 95) with
              | true=>0
              | false=>1)))
        | false=>(match (n12 == 45) with
          | true=>0
          | false=>(match (n12 == 95) with
            | true=>0
            | false=>2))))
    | false=>(match decide (n12 ≥ 48) with
      | true=>(match decide (n12 ≤ 57) with
        | true=>0
        | false=>(match (n12 == 45) with
          | true=>0
          | false=>(match (n12 == 95) with
            | true=>0
            | false=>3)))
      | false=>(match (n12 == 45) with
        | true=>0
        | false=>(match (n12 == 95) with
          | true=>0
          | false=>4))))
  | false=>5)
theorem f43_B0 (s0:ByteArray)(X:Ext)(call:Caller)(lf i0:Nat)(n12:Int)
 (g0:decide ((↑i0:Int)<(↑(ByteArray.size s0):Int))=true→keep [] (indexv Tryd.prog 9 (st s0) (i6 (↑i0:Int)))=some (AV.int IntKind.u8 n12,[]))
 (e0:decide ((↑i0:Int)<(↑(ByteArray.size s0):Int))=true→(↑(i0 + 1):Int)=w6 ((↑i0:Int) + 1)) :
    (f43_o0 s0 i0 n12=0→∃ S1,vexec Tryd.prog X call lf 0 noFg (loopN Tryd.f43 0) (f43_F0 s0 i0)=some (Ex.normal,S1)∧forget f43_D0 S1=(f43_F0 s0 (i0 + 1)))∧(f43_o0 s0 i0 n12=1→vexec Tryd.prog X call lf 0 noFg (loopN Tryd.f43 0) (f43_F0 s0 i0)=some (Ex.ret,(f43_S1 s0 i0 n12)))∧(f43_o0 s0 i0 n12=2→vexec Tryd.prog X call lf 0 noFg (loopN Tryd.f43 0) (f43_F0 s0 i0)=some (Ex.ret,(f43_S2 s0 i0 n12)))∧(f43_o0 s0 i0 n12=3→vexec Tryd.prog X call lf 0 noFg (loopN Tryd.f43 0) (f43_F0 s0 i0)=some (Ex.ret,(f43_S3 s0 i0 n12)))∧(f43_o0 s0 i0 n12=4→vexec Tryd.prog X call lf 0 noFg (loopN Tryd.f43 0) (f43_F0 s0 i0)=some (Ex.ret,(f43_S4 s0 i0 n12)))∧(f43_o0 s0 i0 n12=5→vexec Tryd.prog X call lf 0 noFg (loopN Tryd.f43 0) (f43_F0 s0 i0)=some (Ex.exit 0,(f43_S5 s0 i0))):=by
  unfold f43_o0
  cases c0:decide ((↑i0:Int)<(↑(ByteArray.size s0):Int)) with
  | true =>
    cases c1:decide (n12 ≥ 97) with
    | true =>
      cases c2:decide (n12 ≤ 122) with
      | true =>
        exact ⟨fun _=>f43_s0_ttt s0 X call lf i0 n12 c0 (g0 c0) c1 c2 (e0 c0),fun h=>absurd (show (0:Nat)=1 from h) (by decide),fun h=>absurd (show (0:Nat)=2 from h) (by decide),fun h=>absurd (show (0:Nat)=3 from h) (by decide),fun h=>absurd (show (0:Nat)=4 from h) (by decide),fun h=>absurd (show (0:Nat)=5 from h) (by decide)⟩
      | false =>
        cases c3:decide (n12 ≥ 48) with
        | true =>
          cases c4:decide (n12 ≤ 57) with
          | true =>
            exact ⟨fun _=>f43_s0_ttftt s0 X call lf i0 n12 c0 (g0 c0) c1 c2 c3 c4 (e0 c0),fun h=>absurd (show (0:Nat)=1 from h) (by decide),fun h=>absurd (show (0:Nat)=2 from h) (by decide),fun h=>absurd (show (0:Nat)=3 from h) (by decide),fun h=>absurd (show (0:Nat)=4 from h) (by decide),fun h=>absurd (show (0:Nat)=5 from h) (by decide)⟩
          | false =>
            cases c5:(n12 == 45) with
            | true =>
              exact ⟨fun _=>f43_s0_ttftft s0 X call lf i0 n12 c0 (g0 c0) c1 c2 c3 c4 c5 (e0 c0),fun h=>absurd (show (0:Nat)=1 from h) (by decide),fun h=>absurd (show (0:Nat)=2 from h) (by decide),fun h=>absurd (show (0:Nat)=3 from h) (by decide),fun h=>absurd (show (0:Nat)=4 from h) (by decide),fun h=>absurd (show (0:Nat)=5 from h) (by decide)⟩
            | false =>
              cases c6:(n12 == 95) with
              | true =>
                exact ⟨fun _=>f43_s0_ttftfft s0 X call lf i0 n12 c0 (g0 c0) c1 c2 c3 c4 c5 c6 (e0 c0),fun h=>absurd (show (0:Nat)=1 from h) (by decide),fun h=>absurd (show (0:Nat)=2 from h) (by decide),fun h=>absurd (show (0:Nat)=3 from h) (by decide),fun h=>absurd (show (0:Nat)=4 from h) (by decide),fun h=>absurd (show (0:Nat)=5 from h) (by decide)⟩
              | false =>
                exact ⟨fun h=>absurd (show (1:Nat)=0 from h) (by decide),fun _=>f43_r0_ttftfff s0 X call lf i0 n12 c0 (g0 c0) c1 c2 c3 c4 c5 c6,fun h=>absurd (show (1:Nat)=2 from h) (by decide),fun h=>absurd (show (1:Nat)=3 from h) (by decide),fun h=>absurd (show (1:Nat)=4 from h) (by decide),fun h=>absurd (show (1:Nat)=5 from h) (by decide)⟩
        | false =>
          cases c4:(n12 == 45) with
          | true =>
            exact ⟨fun _=>f43_s0_ttfft s0 X call lf i0 n12 c0 (g0 c0) c1 c2 c3 c4 (e0 c0),fun h=>absurd (show (0:Nat)=1 from h) (by decide),fun h=>absurd (show (0:Nat)=2 from h) (by decide),fun h=>absurd (show (0:Nat)=3 from h) (by decide),fun h=>absurd (show (0:Nat)=4 from h) (by decide),fun h=>absurd (show (0:Nat)=5 from h) (by decide)⟩
          | false =>
            cases c5:(n12 == 95) with
            | true =>
              exact ⟨fun _=>f43_s0_ttffft s0 X call lf i0 n12 c0 (g0 c0) c1 c2 c3 c4 c5 (e0 c0),fun h=>absurd (show (0:Nat)=1 from h) (by decide),fun h=>absurd (show (0:Nat)=2 from h) (by decide),fun h=>absurd (show (0:Nat)=3 from h) (by decide),fun h=>absurd (show (0:Nat)=4 from h) (by decide),fun h=>absurd (show (0:Nat)=5 from h) (by decide)⟩
            | false =>
              exact ⟨fun h=>absurd (show (2:Nat)=0 from h) (by decide),fun h=>absurd (show (2:Nat)=1 from h) (by decide),fun _=>f43_r0_ttffff s0 X call lf i0 n12 c0 (g0 c0) c1 c2 c3 c4 c5,fun h=>absurd (show (2:Nat)=3 from h) (by decide),fun h=>absurd (show (2:Nat)=4 from h) (by decide),fun h=>absurd (show (2:Nat)=5 from h) (by decide)⟩
    | false =>
      cases c2:decide (n12 ≥ 48) with
      | true =>
        cases c3:decide (n12 ≤ 57) with
        | true =>
          exact ⟨fun _=>f43_s0_tftt s0 X call lf i0 n12 c0 (g0 c0) c1 c2 c3 (e0 c0),fun h=>absurd (show (0:Nat)=1 from h) (by decide),fun h=>absurd (show (0:Nat)=2 from h) (by decide),fun h=>absurd (show (0:Nat)=3 from h) (by decide),fun h=>absurd (show (0:Nat)=4 from h) (by decide),fun h=>absurd (show (0:Nat)=5 from h) (by decide)⟩
        | false =>
          cases c4:(n12 == 45) with
          | true =>
            exact ⟨fun _=>f43_s0_tftft s0 X call lf i0 n12 c0 (g0 c0) c1 c2 c3 c4 (e0 c0),fun h=>absurd (show (0:Nat)=1 from h) (by decide),fun h=>absurd (show (0:Nat)=2 from h) (by decide),fun h=>absurd (show (0:Nat)=3 from h) (by decide),fun h=>absurd (show (0:Nat)=4 from h) (by decide),fun h=>absurd (show (0:Nat)=5 from h) (by decide)⟩
          | false =>
            cases c5:(n12 == 95) with
            | true =>
              exact ⟨fun _=>f43_s0_tftfft s0 X call lf i0 n12 c0 (g0 c0) c1 c2 c3 c4 c5 (e0 c0),fun h=>absurd (show (0:Nat)=1 from h) (by decide),fun h=>absurd (show (0:Nat)=2 from h) (by decide),fun h=>absurd (show (0:Nat)=3 from h) (by decide),fun h=>absurd (show (0:Nat)=4 from h) (by decide),fun h=>absurd (show (0:Nat)=5 from h) (by decide)⟩
            | false =>
              exact ⟨fun h=>absurd (show (3:Nat)=0 from h) (by decide),fun h=>absurd (show (3:Nat)=1 from h) (by decide),fun h=>absurd (show (3:Nat)=2 from h) (by decide),fun _=>f43_r0_tftfff s0 X call lf i0 n12 c0 (g0 c0) c1 c2 c3 c4 c5,fun h=>absurd (show (3:Nat)=4 from h) (by decide),fun h=>absurd (show (3:Nat)=5 from h) (by decide)⟩
      | false =>
        cases c3:(n12 == 45) with
        | true =>
          exact ⟨fun _=>f43_s0_tfft s0 X call lf i0 n12 c0 (g0 c0) c1 c2 c3 (e0 c0),fun h=>absurd (show (0:Nat)=1 from h) (by decide),fun h=>absurd (show (0:Nat)=2 from h) (by decide),fun h=>absurd (show (0:Nat)=3 from h) (by decide),fun h=>absurd (show (0:Nat)=4 from h) (by decide),fun h=>absurd (show (0:Nat)=5 from h) (by decide)⟩
        | false =>
          cases c4:(n12 == 95) with
          | true =>
            exact ⟨fun _=>f43_s0_tffft s0 X call lf i0 n12 c0 (g0 c0) c1 c2 c3 c4 (e0 c0),fun h=>absurd (show (0:Nat)=1 from h) (by decide),fun h=>absurd (show (0:Nat)=2 from h) (by decide),fun h=>absurd (show (0:Nat)=3 from h) (by decide),fun h=>absurd (show (0:Nat)=4 from h) (by decide),fun h=>absurd (show (0:Nat)=5 from h) (by decide)⟩
          | false =>
            exact ⟨fun h=>absurd (show (4:Nat)=0 from h) (by decide),fun h=>absurd (show (4:Nat)=1 from h) (by decide),fun h=>absurd (show (4:Nat)=2 from h) (by decide),fun h=>absurd (show (4:Nat)=3 from h) (by decide),fun _=>f43_r0_tffff s0 X call lf i0 n12 c0 (g0 c0) c1 c2 c3 c4,fun h=>absurd (show (4:Nat)=5 from h) (by decide)⟩
  | false =>
    exact ⟨fun h=>absurd (show (5:Nat)=0 from h) (by decide),fun h=>absurd (show (5:Nat)=1 from h) (by decide),fun h=>absurd (show (5:Nat)=2 from h) (by decide),fun h=>absurd (show (5:Nat)=3 from h) (by decide),fun h=>absurd (show (5:Nat)=4 from h) (by decide),fun _=>f43_r0_f s0 X call lf i0 c0⟩
theorem f43_X0 (s0:ByteArray)(X:Ext)(call:Caller)(lf i0:Nat)(n12:Int)
 (g0:decide ((↑i0:Int)<(↑(ByteArray.size s0):Int))=true→keep [] (indexv Tryd.prog 9 (st s0) (i6 (↑i0:Int)))=some (AV.int IntKind.u8 n12,[])) :
    (f43_o0 s0 i0 n12=1→vexec Tryd.prog X call lf 0 noFg (loopN Tryd.f43 0) (f43_F0 s0 i0)=some (Ex.ret,(f43_S1 s0 i0 n12)))∧(f43_o0 s0 i0 n12=2→vexec Tryd.prog X call lf 0 noFg (loopN Tryd.f43 0) (f43_F0 s0 i0)=some (Ex.ret,(f43_S2 s0 i0 n12)))∧(f43_o0 s0 i0 n12=3→vexec Tryd.prog X call lf 0 noFg (loopN Tryd.f43 0) (f43_F0 s0 i0)=some (Ex.ret,(f43_S3 s0 i0 n12)))∧(f43_o0 s0 i0 n12=4→vexec Tryd.prog X call lf 0 noFg (loopN Tryd.f43 0) (f43_F0 s0 i0)=some (Ex.ret,(f43_S4 s0 i0 n12)))∧(f43_o0 s0 i0 n12=5→vexec Tryd.prog X call lf 0 noFg (loopN Tryd.f43 0) (f43_F0 s0 i0)=some (Ex.exit 0,(f43_S5 s0 i0))):=by
  unfold f43_o0
  cases c0:decide ((↑i0:Int)<(↑(ByteArray.size s0):Int)) with
  | true =>
    cases c1:decide (n12 ≥ 97) with
    | true =>
      cases c2:decide (n12 ≤ 122) with
      | true =>
        exact ⟨fun h=>absurd (show (0:Nat)=1 from h) (by decide),fun h=>absurd (show (0:Nat)=2 from h) (by decide),fun h=>absurd (show (0:Nat)=3 from h) (by decide),fun h=>absurd (show (0:Nat)=4 from h) (by decide),fun h=>absurd (show (0:Nat)=5 from h) (by decide)⟩
      | false =>
        cases c3:decide (n12 ≥ 48) with
        | true =>
          cases c4:decide (n12 ≤ 57) with
          | true =>
            exact ⟨fun h=>absurd (show (0:Nat)=1 from h) (by decide),fun h=>absurd (show (0:Nat)=2 from h) (by decide),fun h=>absurd (show (0:Nat)=3 from h) (by decide),fun h=>absurd (show (0:Nat)=4 from h) (by decide),fun h=>absurd (show (0:Nat)=5 from h) (by decide)⟩
          | false =>
            cases c5:(n12 == 45) with
            | true =>
              exact ⟨fun h=>absurd (show (0:Nat)=1 from h) (by decide),fun h=>absurd (show (0:Nat)=2 from h) (by decide),fun h=>absurd (show (0:Nat)=3 from h) (by decide),fun h=>absurd (show (0:Nat)=4 from h) (by decide),fun h=>absurd (show (0:Nat)=5 from h) (by decide)⟩
            | false =>
              cases c6:(n12 == 95) with
              | true =>
                exact ⟨fun h=>absurd (show (0:Nat)=1 from h) (by decide),fun h=>absurd (show (0:Nat)=2 from h) (by decide),fun h=>absurd (show (0:Nat)=3 from h) (by decide),fun h=>absurd (show (0:Nat)=4 from h) (by decide),fun h=>absurd (show (0:Nat)=5 from h) (by decide)⟩
              | false =>
                exact ⟨fun _=>f43_r0_ttftfff s0 X call lf i0 n12 c0 (g0 c0) c1 c2 c3 c4 c5 c6,fun h=>absurd (show (1:Nat)=2 from h) (by decide),fun h=>absurd (show (1:Nat)=3 from h) (by decide),fun h=>absurd (show (1:Nat)=4 from h) (by decide),fun h=>absurd (show (1:Nat)=5 from h) (by decide)⟩
        | false =>
          cases c4:(n12 == 45) with
          | true =>
            exact ⟨fun h=>absurd (show (0:Nat)=1 from h) (by decide),fun h=>absurd (show (0:Nat)=2 from h) (by decide),fun h=>absurd (show (0:Nat)=3 from h) (by decide),fun h=>absurd (show (0:Nat)=4 from h) (by decide),fun h=>absurd (show (0:Nat)=5 from h) (by decide)⟩
          | false =>
            cases c5:(n12 == 95) with
            | true =>
              exact ⟨fun h=>absurd (show (0:Nat)=1 from h) (by decide),fun h=>absurd (show (0:Nat)=2 from h) (by decide),fun h=>absurd (show (0:Nat)=3 from h) (by decide),fun h=>absurd (show (0:Nat)=4 from h) (by decide),fun h=>absurd (show (0:Nat)=5 from h) (by decide)⟩
            | false =>
              exact ⟨fun h=>absurd (show (2:Nat)=1 from h) (by decide),fun _=>f43_r0_ttffff s0 X call lf i0 n12 c0 (g0 c0) c1 c2 c3 c4 c5,fun h=>absurd (show (2:Nat)=3 from h) (by decide),fun h=>absurd (show (2:Nat)=4 from h) (by decide),fun h=>absurd (show (2:Nat)=5 from h) (by decide)⟩
    | false =>
      cases c2:decide (n12 ≥ 48) with
      | true =>
        cases c3:decide (n12 ≤ 57) with
        | true =>
          exact ⟨fun h=>absurd (show (0:Nat)=1 from h) (by decide),fun h=>absurd (show (0:Nat)=2 from h) (by decide),fun h=>absurd (show (0:Nat)=3 from h) (by decide),fun h=>absurd (show (0:Nat)=4 from h) (by decide),fun h=>absurd (show (0:Nat)=5 from h) (by decide)⟩
        | false =>
          cases c4:(n12 == 45) with
          | true =>
            exact ⟨fun h=>absurd (show (0:Nat)=1 from h) (by decide),fun h=>absurd (show (0:Nat)=2 from h) (by decide),fun h=>absurd (show (0:Nat)=3 from h) (by decide),fun h=>absurd (show (0:Nat)=4 from h) (by decide),fun h=>absurd (show (0:Nat)=5 from h) (by decide)⟩
          | false =>
            cases c5:(n12 == 95) with
            | true =>
              exact ⟨fun h=>absurd (show (0:Nat)=1 from h) (by decide),fun h=>absurd (show (0:Nat)=2 from h) (by decide),fun h=>absurd (show (0:Nat)=3 from h) (by decide),fun h=>absurd (show (0:Nat)=4 from h) (by decide),fun h=>absurd (show (0:Nat)=5 from h) (by decide)⟩
            | false =>
              exact ⟨fun h=>absurd (show (3:Nat)=1 from h) (by decide),fun h=>absurd (show (3:Nat)=2 from h) (by decide),fun _=>f43_r0_tftfff s0 X call lf i0 n12 c0 (g0 c0) c1 c2 c3 c4 c5,fun h=>absurd (show (3:Nat)=4 from h) (by decide),fun h=>absurd (show (3:Nat)=5 from h) (by decide)⟩
      | false =>
        cases c3:(n12 == 45) with
        | true =>
          exact ⟨fun h=>absurd (show (0:Nat)=1 from h) (by decide),fun h=>absurd (show (0:Nat)=2 from h) (by decide),fun h=>absurd (show (0:Nat)=3 from h) (by decide),fun h=>absurd (show (0:Nat)=4 from h) (by decide),fun h=>absurd (show (0:Nat)=5 from h) (by decide)⟩
        | false =>
          cases c4:(n12 == 95) with
          | true =>
            exact ⟨fun h=>absurd (show (0:Nat)=1 from h) (by decide),fun h=>absurd (show (0:Nat)=2 from h) (by decide),fun h=>absurd (show (0:Nat)=3 from h) (by decide),fun h=>absurd (show (0:Nat)=4 from h) (by decide),fun h=>absurd (show (0:Nat)=5 from h) (by decide)⟩
          | false =>
            exact ⟨fun h=>absurd (show (4:Nat)=1 from h) (by decide),fun h=>absurd (show (4:Nat)=2 from h) (by decide),fun h=>absurd (show (4:Nat)=3 from h) (by decide),fun _=>f43_r0_tffff s0 X call lf i0 n12 c0 (g0 c0) c1 c2 c3 c4,fun h=>absurd (show (4:Nat)=5 from h) (by decide)⟩
  | false =>
    exact ⟨fun h=>absurd (show (5:Nat)=1 from h) (by decide),fun h=>absurd (show (5:Nat)=2 from h) (by decide),fun h=>absurd (show (5:Nat)=3 from h) (by decide),fun h=>absurd (show (5:Nat)=4 from h) (by decide),fun _=>f43_r0_f s0 X call lf i0 c0⟩
theorem f43_M (s0:ByteArray)(X:Ext)(call:Caller)(lf n:Nat)(n12:Nat→Int)
 (hn:n<lf)
 (g0:∀ i0,i0 ≤ n→decide ((↑i0:Int)<(↑(ByteArray.size s0):Int))=true→keep [] (indexv Tryd.prog 9 (st s0) (i6 (↑i0:Int)))=some (AV.int IntKind.u8 (n12 i0),[]))
 (e0:∀ i0,i0<n→decide ((↑i0:Int)<(↑(ByteArray.size s0):Int))=true→(↑(i0 + 1):Int)=w6 ((↑i0:Int) + 1))
 (hz:∀ j,j<n→f43_o0 s0 j (n12 j)=0) :
    (f43_o0 s0 n (n12 n)=1→vbody Tryd.prog X call lf noFg Tryd.f43 (codeOf Tryd.f43) [st s0] [] 0=some (bo false,[]))∧(f43_o0 s0 n (n12 n)=2→vbody Tryd.prog X call lf noFg Tryd.f43 (codeOf Tryd.f43) [st s0] [] 0=some (bo false,[]))∧(f43_o0 s0 n (n12 n)=3→vbody Tryd.prog X call lf noFg Tryd.f43 (codeOf Tryd.f43) [st s0] [] 0=some (bo false,[]))∧(f43_o0 s0 n (n12 n)=4→vbody Tryd.prog X call lf noFg Tryd.f43 (codeOf Tryd.f43) [st s0] [] 0=some (bo false,[]))∧(f43_o0 s0 n (n12 n)=5→(!ByteArray.toList s0 == ByteArray.toList (ByteArray.mk #[]))=true→vbody Tryd.prog X call lf noFg Tryd.f43 (codeOf Tryd.f43) [st s0] [] 0=some (bo true,[]))∧(f43_o0 s0 n (n12 n)=5→(!ByteArray.toList s0 == ByteArray.toList (ByteArray.mk #[]))=false→vbody Tryd.prog X call lf noFg Tryd.f43 (codeOf Tryd.f43) [st s0] [] 0=some (bo false,[])):=by
  have key:∀ j,j<n→_:=fun j hj=>(f43_B0 s0 X call lf j (n12 j) (g0 j (Nat.le_of_lt hj)) (e0 j hj)).1 (hz j hj)
  have kn:=f43_X0 s0 X call lf n (n12 n) (g0 n (Nat.le_refl n))
  exact ⟨fun hk=>f43_plttftfff s0 X call lf n (n12 n) (f43_L0 s0 X call lf n _ _ hn key (kn.1 hk) (by simp)),
    fun hk=>f43_plttffff s0 X call lf n (n12 n) (f43_L0 s0 X call lf n _ _ hn key (kn.2.1 hk) (by simp)),
    fun hk=>f43_pltftfff s0 X call lf n (n12 n) (f43_L0 s0 X call lf n _ _ hn key (kn.2.2.1 hk) (by simp)),
    fun hk=>f43_pltffff s0 X call lf n (n12 n) (f43_L0 s0 X call lf n _ _ hn key (kn.2.2.2.1 hk) (by simp)),
    fun hk q0=>f43_plft s0 X call lf n (f43_L0 s0 X call lf n _ _ hn key (kn.2.2.2.2 hk) (by simp)) q0,
    fun hk q0=>f43_plff s0 X call lf n (f43_L0 s0 X call lf n _ _ hn key (kn.2.2.2.2 hk) (by simp)) q0⟩
def f75_F0 (s0:ByteArray)(i0:Nat):St :=
  stOf 34 [2,4,5,6,7,8,9,10,11,12,13,14,15,16,17,18,19,20,21,22,23,24,25,26,27,28,29,30,31] [(0,st s0),(3,i6 (↑i0:Int))] []
abbrev f75_D0:List Nat:=[10,9,2,31,30,29,28,27,26,25,24,23,22,21,20,19,18,17,16,15,14,4,13,12,11,8,7,6,5]
theorem f75_L0 (s0:ByteArray)(X:Ext)(call:Caller)(lf n:Nat)(x:Ex) (S' : St)
 (hn:n<lf)
 (hs:∀ j,j<n→∃ S1,vexec Tryd.prog X call lf 0 noFg (loopN Tryd.f75 0) (f75_F0 s0 j)=some (Ex.normal,S1)∧forget f75_D0 S1=(f75_F0 s0 (j + 1)))
 (he:vexec Tryd.prog X call lf 0 noFg (loopN Tryd.f75 0) (f75_F0 s0 n)=some (x,S'))
 (hx:x ≠ Ex.normal):vexec Tryd.prog X call lf 0 noFg (Go.Code.loop (loopN Tryd.f75 0)) (stOf 34 [] [(0,st s0),(2,bo false),(3,i6 0)] [])=some (x,S') :=
  loop_runK (by kernel_rfl) (fun j=>(f75_F0 s0 j)) n hn (by show forget f75_D0 (stOf 34 [] [(0,st s0),(2,bo false),(3,i6 0)] [])=(f75_F0 s0 0); unfold f75_F0; show _=_; kernel_rfl) hs he hx
def f75_S0 (s0:ByteArray)(i0:Nat)(n13:Int):St :=
  stOf 34 [9,10] [(0,st s0),(2,bo false),(3,i6 (↑i0:Int)),(4,AV.int IntKind.u8 n13),(5,i6 (↑i0:Int)),(6,st s0),(7,i6 (↑(ByteArray.size s0):Int)),(8,bo true),(11,st s0),(12,i6 (↑i0:Int)),(13,AV.int IntKind.u8 n13),(14,AV.int IntKind.u8 n13),(15,bo true),(16,bo true),(19,bo true),(20,bo true),(21,AV.int IntKind.u8 n13),(22,bo true),(23,bo true),(26,bo true),(27,bo true),(28,bo true),(29,AV.int IntKind.u8 n13),(30,bo true),(31,bo true)] []
theorem f75_r0_tttt (s0:ByteArray)(X:Ext)(call:Caller)(lf i0:Nat)(n13:Int)
 (h0:decide ((↑i0:Int)<(↑(ByteArray.size s0):Int))=true)
 (h1:keep [] (indexv Tryd.prog 9 (st s0) (i6 (↑i0:Int)))=some (AV.int IntKind.u8 n13,[]))
 (h2:decide (n13<97)=true)
 (h3:decide (n13<48)=true)
 (h4:(n13 != 45)=true):vexec Tryd.prog X call lf 0 noFg (loopN Tryd.f75 0) (f75_F0 s0 i0)=some (Ex.ret,(f75_S0 s0 i0 n13)) :=
  around_sound (ans:=[(4,Ans.b true),(9,Ans.v (AV.int IntKind.u8 n13)),(13,Ans.b true),(22,Ans.b true),(34,Ans.b true)]) (by kernel_rfl) (ai h0 (ai h1 (ai h2 (ai h3 (ai h4 trivial)))))
theorem f75_pltttt (s0:ByteArray)(X:Ext)(call:Caller)(lf i0:Nat)(n13:Int)
 (h0:vexec Tryd.prog X call lf 0 noFg (Code.loop (loopN Tryd.f75 0)) (stOf 34 [] [(0,st s0),(2,bo false),(3,i6 0)] [])=some (Ex.ret,(f75_S0 s0 i0 n13))):vbody Tryd.prog X call lf noFg Tryd.f75 (codeOf Tryd.f75) [st s0] [] 0=some (bo false,[]) :=
  along_sound (ans:=[(4,Ans.l Ex.ret (f75_S0 s0 i0 n13))]) (by kernel_rfl) (ai h0 trivial)
theorem f75_s0_tttf (s0:ByteArray)(X:Ext)(call:Caller)(lf i0:Nat)(n13:Int)
 (h0:decide ((↑i0:Int)<(↑(ByteArray.size s0):Int))=true)
 (h1:keep [] (indexv Tryd.prog 9 (st s0) (i6 (↑i0:Int)))=some (AV.int IntKind.u8 n13,[]))
 (h2:decide (n13<97)=true)
 (h3:decide (n13<48)=true)
 (h4:(n13 != 45)=false)
 (e0:(↑(i0 + 1):Int)=w6 ((↑i0:Int) + 1)):∃ S1,vexec Tryd.prog X call lf 0 noFg (loopN Tryd.f75 0) (f75_F0 s0 i0)=some (Ex.normal,S1)∧forget f75_D0 S1=(f75_F0 s0 (i0 + 1)) :=
  ⟨stOf 34 [2] [(0,st s0),(3,i6 (w6 ((↑i0:Int) + 1))),(4,AV.int IntKind.u8 n13),(5,i6 (↑i0:Int)),(6,st s0),(7,i6 (↑(ByteArray.size s0):Int)),(8,bo true),(9,i6 (↑i0:Int)),(10,i6 (w6 ((↑i0:Int) + 1))),(11,st s0),(12,i6 (↑i0:Int)),(13,AV.int IntKind.u8 n13),(14,AV.int IntKind.u8 n13),(15,bo true),(16,bo true),(19,bo true),(20,bo true),(21,AV.int IntKind.u8 n13),(22,bo true),(23,bo true),(26,bo true),(27,bo true),(28,bo true),(29,AV.int IntKind.u8 n13),(30,bo false),(31,bo false)] [],around_sound (ans:=[(4,Ans.b true),(9,Ans.v (AV.int IntKind.u8 n13)),(13,Ans.b true),(22,Ans.b true),(34,Ans.b false)]) (by kernel_rfl) (ai h0 (ai h1 (ai h2 (ai h3 (ai h4 trivial))))),by unfold f75_F0; rw [e0]; show _=_; kernel_rfl⟩
def f75_S1 (s0:ByteArray)(i0:Nat)(n13:Int):St :=
  stOf 34 [9,10] [(0,st s0),(2,bo false),(3,i6 (↑i0:Int)),(4,AV.int IntKind.u8 n13),(5,i6 (↑i0:Int)),(6,st s0),(7,i6 (↑(ByteArray.size s0):Int)),(8,bo true),(11,st s0),(12,i6 (↑i0:Int)),(13,AV.int IntKind.u8 n13),(14,AV.int IntKind.u8 n13),(15,bo true),(16,bo true),(19,bo true),(20,bo true),(21,AV.int IntKind.u8 n13),(22,bo false),(23,bo false),(24,AV.int IntKind.u8 n13),(25,bo true),(26,bo true),(27,bo true),(28,bo true),(29,AV.int IntKind.u8 n13),(30,bo true),(31,bo true)] []
theorem f75_r0_ttftt (s0:ByteArray)(X:Ext)(call:Caller)(lf i0:Nat)(n13:Int)
 (h0:decide ((↑i0:Int)<(↑(ByteArray.size s0):Int))=true)
 (h1:keep [] (indexv Tryd.prog 9 (st s0) (i6 (↑i0:Int)))=some (AV.int IntKind.u8 n13,[]))
 (h2:decide (n13<97)=true)
 (h3:decide (n13<48)=false)
 (h4:decide (n13>57)=true)
 (h5:(n13 != 45)=true):vexec Tryd.prog X call lf 0 noFg (loopN Tryd.f75 0) (f75_F0 s0 i0)=some (Ex.ret,(f75_S1 s0 i0 n13)) :=
  around_sound (ans:=[(4,Ans.b true),(9,Ans.v (AV.int IntKind.u8 n13)),(13,Ans.b true),(22,Ans.b false),(28,Ans.b true),(36,Ans.b true)]) (by kernel_rfl) (ai h0 (ai h1 (ai h2 (ai h3 (ai h4 (ai h5 trivial))))))
theorem f75_plttftt (s0:ByteArray)(X:Ext)(call:Caller)(lf i0:Nat)(n13:Int)
 (h0:vexec Tryd.prog X call lf 0 noFg (Code.loop (loopN Tryd.f75 0)) (stOf 34 [] [(0,st s0),(2,bo false),(3,i6 0)] [])=some (Ex.ret,(f75_S1 s0 i0 n13))):vbody Tryd.prog X call lf noFg Tryd.f75 (codeOf Tryd.f75) [st s0] [] 0=some (bo false,[]) :=
  along_sound (ans:=[(4,Ans.l Ex.ret (f75_S1 s0 i0 n13))]) (by kernel_rfl) (ai h0 trivial)
theorem f75_s0_ttftf (s0:ByteArray)(X:Ext)(call:Caller)(lf i0:Nat)(n13:Int)
 (h0:decide ((↑i0:Int)<(↑(ByteArray.size s0):Int))=true)
 (h1:keep [] (indexv Tryd.prog 9 (st s0) (i6 (↑i0:Int)))=some (AV.int IntKind.u8 n13,[]))
 (h2:decide (n13<97)=true)
 (h3:decide (n13<48)=false)
 (h4:decide (n13>57)=true)
 (h5:(n13 != 45)=false)
 (e0:(↑(i0 + 1):Int)=w6 ((↑i0:Int) + 1)):∃ S1,vexec Tryd.prog X call lf 0 noFg (loopN Tryd.f75 0) (f75_F0 s0 i0)=some (Ex.normal,S1)∧forget f75_D0 S1=(f75_F0 s0 (i0 + 1)) :=
  ⟨stOf 34 [2] [(0,st s0),(3,i6 (w6 ((↑i0:Int) + 1))),(4,AV.int IntKind.u8 n13),(5,i6 (↑i0:Int)),(6,st s0),(7,i6 (↑(ByteArray.size s0):Int)),(8,bo true),(9,i6 (↑i0:Int)),(10,i6 (w6 ((↑i0:Int) + 1))),(11,st s0),(12,i6 (↑i0:Int)),(13,AV.int IntKind.u8 n13),(14,AV.int IntKind.u8 n13),(15,bo true),(16,bo true),(19,bo true),(20,bo true),(21,AV.int IntKind.u8 n13),(22,bo false),(23,bo false),(24,AV.int IntKind.u8 n13),(25,bo true),(26,bo true),(27,bo true),(28,bo true),(29,AV.int IntKind.u8 n13),(30,bo false),(31,bo false)] [],around_sound (ans:=[(4,Ans.b true),(9,Ans.v (AV.int IntKind.u8 n13)),(13,Ans.b true),(22,Ans.b false),(28,Ans.b true),(36,Ans.b false)]) (by kernel_rfl) (ai h0 (ai h1 (ai h2 (ai h3 (ai h4 (ai h5 trivial)))))),by unfold f75_F0; rw [e0]; show _=_; kernel_rfl⟩
theorem f75_s0_ttff (s0:ByteArray)(X:Ext)(call:Caller)(lf i0:Nat)(n13:Int)
 (h0:decide ((↑i0:Int)<(↑(ByteArray.size s0):Int))=true)
 (h1:keep [] (indexv Tryd.prog 9 (st s0) (i6 (↑i0:Int)))=some (AV.int IntKind.u8 n13,[]))
 (h2:decide (n13<97)=true)
 (h3:decide (n13<48)=false)
 (h4:decide (n13>57)=false)
 (e0:(↑(i0 + 1):Int)=w6 ((↑i0:Int) + 1)):∃ S1,vexec Tryd.prog X call lf 0 noFg (loopN Tryd.f75 0) (f75_F0 s0 i0)=some (Ex.normal,S1)∧forget f75_D0 S1=(f75_F0 s0 (i0 + 1)) :=
  ⟨stOf 34 [2] [(0,st s0),(3,i6 (w6 ((↑i0:Int) + 1))),(4,AV.int IntKind.u8 n13),(5,i6 (↑i0:Int)),(6,st s0),(7,i6 (↑(ByteArray.size s0):Int)),(8,bo true),(9,i6 (↑i0:Int)),(10,i6 (w6 ((↑i0:Int) + 1))),(11,st s0),(12,i6 (↑i0:Int)),(13,AV.int IntKind.u8 n13),(14,AV.int IntKind.u8 n13),(15,bo true),(16,bo true),(19,bo true),(20,bo true),(21,AV.int IntKind.u8 n13),(22,bo false),(23,bo false),(24,AV.int IntKind.u8 n13),(25,bo false),(26,bo false),(27,bo false),(28,bo false),(31,bo false)] [],around_sound (ans:=[(4,Ans.b true),(9,Ans.v (AV.int IntKind.u8 n13)),(13,Ans.b true),(22,Ans.b false),(28,Ans.b false)]) (by kernel_rfl) (ai h0 (ai h1 (ai h2 (ai h3 (ai h4 trivial))))),by unfold f75_F0; rw [e0]; show _=_; kernel_rfl⟩
def f75_S2 (s0:ByteArray)(i0:Nat)(n13:Int):St :=
  stOf 34 [9,10] [(0,st s0),(2,bo false),(3,i6 (↑i0:Int)),(4,AV.int IntKind.u8 n13),(5,i6 (↑i0:Int)),(6,st s0),(7,i6 (↑(ByteArray.size s0):Int)),(8,bo true),(11,st s0),(12,i6 (↑i0:Int)),(13,AV.int IntKind.u8 n13),(14,AV.int IntKind.u8 n13),(15,bo false),(16,bo false),(17,AV.int IntKind.u8 n13),(18,bo true),(19,bo true),(20,bo true),(21,AV.int IntKind.u8 n13),(22,bo true),(23,bo true),(26,bo true),(27,bo true),(28,bo true),(29,AV.int IntKind.u8 n13),(30,bo true),(31,bo true)] []
theorem f75_r0_tfttt (s0:ByteArray)(X:Ext)(call:Caller)(lf i0:Nat)(n13:Int)
 (h0:decide ((↑i0:Int)<(↑(ByteArray.size s0):Int))=true)
 (h1:keep [] (indexv Tryd.prog 9 (st s0) (i6 (↑i0:Int)))=some (AV.int IntKind.u8 n13,[]))
 (h2:decide (n13<97)=false)
 (h3:decide (n13>122)=true)
 (h4:decide (n13<48)=true)
 (h5:(n13 != 45)=true):vexec Tryd.prog X call lf 0 noFg (loopN Tryd.f75 0) (f75_F0 s0 i0)=some (Ex.ret,(f75_S2 s0 i0 n13)) :=
  around_sound (ans:=[(4,Ans.b true),(9,Ans.v (AV.int IntKind.u8 n13)),(13,Ans.b false),(18,Ans.b true),(24,Ans.b true),(36,Ans.b true)]) (by kernel_rfl) (ai h0 (ai h1 (ai h2 (ai h3 (ai h4 (ai h5 trivial))))))
theorem f75_pltfttt (s0:ByteArray)(X:Ext)(call:Caller)(lf i0:Nat)(n13:Int)
 (h0:vexec Tryd.prog X call lf 0 noFg (Code.loop (loopN Tryd.f75 0)) (stOf 34 [] [(0,st s0),(2,bo false),(3,i6 0)] [])=some (Ex.ret,(f75_S2 s0 i0 n13))):vbody Tryd.prog X call lf noFg Tryd.f75 (codeOf Tryd.f75) [st s0] [] 0=some (bo false,[]) :=
  along_sound (ans:=[(4,Ans.l Ex.ret (f75_S2 s0 i0 n13))]) (by kernel_rfl) (ai h0 trivial)
theorem f75_s0_tfttf (s0:ByteArray)(X:Ext)(call:Caller)(lf i0:Nat)(n13:Int)
 (h0:decide ((↑i0:Int)<(↑(ByteArray.size s0):Int))=true)
 (h1:keep [] (indexv Tryd.prog 9 (st s0) (i6 (↑i0:Int)))=some (AV.int IntKind.u8 n13,[]))
 (h2:decide (n13<97)=false)
 (h3:decide (n13>122)=true)
 (h4:decide (n13<48)=true)
 (h5:(n13 != 45)=false)
 (e0:(↑(i0 + 1):Int)=w6 ((↑i0:Int) + 1)):∃ S1,vexec Tryd.prog X call lf 0 noFg (loopN Tryd.f75 0) (f75_F0 s0 i0)=some (Ex.normal,S1)∧forget f75_D0 S1=(f75_F0 s0 (i0 + 1)) :=
  ⟨stOf 34 [2] [(0,st s0),(3,i6 (w6 ((↑i0:Int) + 1))),(4,AV.int IntKind.u8 n13),(5,i6 (↑i0:Int)),(6,st s0),(7,i6 (↑(ByteArray.size s0):Int)),(8,bo true),(9,i6 (↑i0:Int)),(10,i6 (w6 ((↑i0:Int) + 1))),(11,st s0),(12,i6 (↑i0:Int)),(13,AV.int IntKind.u8 n13),(14,AV.int IntKind.u8 n13),(15,bo false),(16,bo false),(17,AV.int IntKind.u8 n13),(18,bo true),(19,bo true),(20,bo true),(21,AV.int IntKind.u8 n13),(22,bo true),(23,bo true),(26,bo true),(27,bo true),(28,bo true),(29,AV.int IntKind.u8 n13),(30,bo false),(31,bo false)] [],around_sound (ans:=[(4,Ans.b true),(9,Ans.v (AV.int IntKind.u8 n13)),(13,Ans.b false),(18,Ans.b true),(24,Ans.b true),(36,Ans.b false)]) (by kernel_rfl) (ai h0 (ai h1 (ai h2 (ai h3 (ai h4 (ai h5 trivial)))))),by unfold f75_F0; rw [e0]; show _=_; kernel_rfl⟩
def f75_S3 (s0:ByteArray)(i0:Nat)(n13:Int):St :=
  stOf 34 [9,10] [(0,st s0),(2,bo false),(3,i6 (↑i0:Int)),(4,AV.int IntKind.u8 n13),(5,i6 (↑i0:Int)),(6,st s0),(7,i6 (↑(ByteArray.size s0):Int)),(8,bo true),(11,st s0),(12,i6 (↑i0:Int)),(13,AV.int IntKind.u8 n13),(14,AV.int IntKind.u8 n13),(15,bo false),(16,bo false),(17,AV.int IntKind.u8 n13),(18,bo true),(19,bo true),(20,bo true),(21,AV.int IntKind.u8 n13),(22,bo false),(23,bo false),(24,AV.int IntKind.u8 n13),(25,bo true),(26,bo true),(27,bo true),(28,bo true),(29,AV.int IntKind.u8 n13),(30,bo true),(31,bo true)] []
theorem f75_r0_tftftt (s0:ByteArray)(X:Ext)(call:Caller)(lf i0:Nat)(n13:Int)
 (h0:decide ((↑i0:Int)<(↑(ByteArray.size s0):Int))=true)
 (h1:keep [] (indexv Tryd.prog 9 (st s0) (i6 (↑i0:Int)))=some (AV.int IntKind.u8 n13,[]))
 (h2:decide (n13<97)=false)
 (h3:decide (n13>122)=true)
 (h4:decide (n13<48)=false)
 (h5:decide (n13>57)=true)
 (h6:(n13 != 45)=true):vexec Tryd.prog X call lf 0 noFg (loopN Tryd.f75 0) (f75_F0 s0 i0)=some (Ex.ret,(f75_S3 s0 i0 n13)) :=
  around_sound (ans:=[(4,Ans.b true),(9,Ans.v (AV.int IntKind.u8 n13)),(13,Ans.b false),(18,Ans.b true),(24,Ans.b false),(30,Ans.b true),(38,Ans.b true)]) (by kernel_rfl) (ai h0 (ai h1 (ai h2 (ai h3 (ai h4 (ai h5 (ai h6 trivial)))))))
theorem f75_pltftftt (s0:ByteArray)(X:Ext)(call:Caller)(lf i0:Nat)(n13:Int)
 (h0:vexec Tryd.prog X call lf 0 noFg (Code.loop (loopN Tryd.f75 0)) (stOf 34 [] [(0,st s0),(2,bo false),(3,i6 0)] [])=some (Ex.ret,(f75_S3 s0 i0 n13))):vbody Tryd.prog X call lf noFg Tryd.f75 (codeOf Tryd.f75) [st s0] [] 0=some (bo false,[]) :=
  along_sound (ans:=[(4,Ans.l Ex.ret (f75_S3 s0 i0 n13))]) (by kernel_rfl) (ai h0 trivial)
theorem f75_s0_tftftf (s0:ByteArray)(X:Ext)(call:Caller)(lf i0:Nat)(n13:Int)
 (h0:decide ((↑i0:Int)<(↑(ByteArray.size s0):Int))=true)
 (h1:keep [] (indexv Tryd.prog 9 (st s0) (i6 (↑i0:Int)))=some (AV.int IntKind.u8 n13,[]))
 (h2:decide (n13<97)=false)
 (h3:decide (n13>122)=true)
 (h4:decide (n13<48)=false)
 (h5:decide (n13>57)=true)
 (h6:(n13 != 45)=false)
 (e0:(↑(i0 + 1):Int)=w6 ((↑i0:Int) + 1)):∃ S1,vexec Tryd.prog X call lf 0 noFg (loopN Tryd.f75 0) (f75_F0 s0 i0)=some (Ex.normal,S1)∧forget f75_D0 S1=(f75_F0 s0 (i0 + 1)) :=
  ⟨stOf 34 [2] [(0,st s0),(3,i6 (w6 ((↑i0:Int) + 1))),(4,AV.int IntKind.u8 n13),(5,i6 (↑i0:Int)),(6,st s0),(7,i6 (↑(ByteArray.size s0):Int)),(8,bo true),(9,i6 (↑i0:Int)),(10,i6 (w6 ((↑i0:Int) + 1))),(11,st s0),(12,i6 (↑i0:Int)),(13,AV.int IntKind.u8 n13),(14,AV.int IntKind.u8 n13),(15,bo false),(16,bo false),(17,AV.int IntKind.u8 n13),(18,bo true),(19,bo true),(20,bo true),(21,AV.int IntKind.u8 n13),(22,bo false),(23,bo false),(24,AV.int IntKind.u8 n13),(25,bo true),(26,bo true),(27,bo true),(28,bo true),(29,AV.int IntKind.u8 n13),(30,bo false),(31,bo false)] [],around_sound (ans:=[(4,Ans.b true),(9,Ans.v (AV.int IntKind.u8 n13)),(13,Ans.b false),(18,Ans.b true),(24,Ans.b false),(30,Ans.b true),(38,Ans.b false)]) (by kernel_rfl) (ai h0 (ai h1 (ai h2 (ai h3 (ai h4 (ai h5 (ai h6 trivial))))))),by unfold f75_F0; rw [e0]; show _=_; kernel_rfl⟩
theorem f75_s0_tftff (s0:ByteArray)(X:Ext)(call:Caller)(lf i0:Nat)(n13:Int)
 (h0:decide ((↑i0:Int)<(↑(ByteArray.size s0):Int))=true)
 (h1:keep [] (indexv Tryd.prog 9 (st s0) (i6 (↑i0:Int)))=some (AV.int IntKind.u8 n13,[]))
 (h2:decide (n13<97)=false)
 (h3:decide (n13>122)=true)
 (h4:decide (n13<48)=false)
 (h5:decide (n13>57)=false)
 (e0:(↑(i0 + 1):Int)=w6 ((↑i0:Int) + 1)):∃ S1,vexec Tryd.prog X call lf 0 noFg (loopN Tryd.f75 0) (f75_F0 s0 i0)=some (Ex.normal,S1)∧forget f75_D0 S1=(f75_F0 s0 (i0 + 1)) :=
  ⟨stOf 34 [2] [(0,st s0),(3,i6 (w6 ((↑i0:Int) + 1))),(4,AV.int IntKind.u8 n13),(5,i6 (↑i0:Int)),(6,st s0),(7,i6 (↑(ByteArray.size s0):Int)),(8,bo true),(9,i6 (↑i0:Int)),(10,i6 (w6 ((↑i0:Int) + 1))),(11,st s0),(12,i6 (↑i0:Int)),(13,AV.int IntKind.u8 n13),(14,AV.int IntKind.u8 n13),(15,bo false),(16,bo false),(17,AV.int IntKind.u8 n13),(18,bo true),(19,bo true),(20,bo true),(21,AV.int IntKind.u8 n13),(22,bo false),(23,bo false),(24,AV.int IntKind.u8 n13),(25,bo false),(26,bo false),(27,bo false),(28,bo false),(31,bo false)] [],around_sound (ans:=[(4,Ans.b true),(9,Ans.v (AV.int IntKind.u8 n13)),(13,Ans.b false),(18,Ans.b true),(24,Ans.b false),(30,Ans.b false)]) (by kernel_rfl) (ai h0 (ai h1 (ai h2 (ai h3 (ai h4 (ai h5 trivial)))))),by unfold f75_F0; rw [e0]; show _=_; kernel_rfl⟩
theorem f75_s0_tff (s0:ByteArray)(X:Ext)(call:Caller)(lf i0:Nat)(n13:Int)
 (h0:decide ((↑i0:Int)<(↑(ByteArray.size s0):Int))=true)
 (h1:keep [] (indexv Tryd.prog 9 (st s0) (i6 (↑i0:Int)))=some (AV.int IntKind.u8 n13,[]))
 (h2:decide (n13<97)=false)
 (h3:decide (n13>122)=false)
 (e0:(↑(i0 + 1):Int)=w6 ((↑i0:Int) + 1)):∃ S1,vexec Tryd.prog X call lf 0 noFg (loopN Tryd.f75 0) (f75_F0 s0 i0)=some (Ex.normal,S1)∧forget f75_D0 S1=(f75_F0 s0 (i0 + 1)) :=
  ⟨stOf 34 [2] [(0,st s0),(3,i6 (w6 ((↑i0:Int) + 1))),(4,AV.int IntKind.u8 n13),(5,i6 (↑i0:Int)),(6,st s0),(7,i6 (↑(ByteArray.size s0):Int)),(8,bo true),(9,i6 (↑i0:Int)),(10,i6 (w6 ((↑i0:Int) + 1))),(11,st s0),(12,i6 (↑i0:Int)),(13,AV.int IntKind.u8 n13),(14,AV.int IntKind.u8 n13),(15,bo false),(16,bo false),(17,AV.int IntKind.u8 n13),(18,bo false),(19,bo false),(20,bo false),(27,bo false),(28,bo false),(31,bo false)] [],around_sound (ans:=[(4,Ans.b true),(9,Ans.v (AV.int IntKind.u8 n13)),(13,Ans.b false),(18,Ans.b false)]) (by kernel_rfl) (ai h0 (ai h1 (ai h2 (ai h3 trivial)))),by unfold f75_F0; rw [e0]; show _=_; kernel_rfl⟩
def f75_S4 (s0:ByteArray)(i0:Nat):St :=
  stOf 34 [2,4,9,10,11,12,13,14,15,16,17,18,19,20,21,22,23,24,25,26,27,28,29,30,31] [(0,st s0),(3,i6 (↑i0:Int)),(5,i6 (↑i0:Int)),(6,st s0),(7,i6 (↑(ByteArray.size s0):Int)),(8,bo false)] []
theorem f75_r0_f (s0:ByteArray)(X:Ext)(call:Caller)(lf i0:Nat)
 (h0:decide ((↑i0:Int)<(↑(ByteArray.size s0):Int))=false):vexec Tryd.prog X call lf 0 noFg (loopN Tryd.f75 0) (f75_F0 s0 i0)=some (Ex.exit 0,(f75_S4 s0 i0)) :=
  around_sound (ans:=[(4,Ans.b false)]) (by kernel_rfl) (ai h0 trivial)
theorem f75_plft (s0:ByteArray)(X:Ext)(call:Caller)(lf i0:Nat)
 (h0:vexec Tryd.prog X call lf 0 noFg (Code.loop (loopN Tryd.f75 0)) (stOf 34 [] [(0,st s0),(2,bo false),(3,i6 0)] [])=some (Ex.exit 0,(f75_S4 s0 i0)))
 (h1:(!ByteArray.toList s0 == ByteArray.toList (ByteArray.mk #[]))=true):vbody Tryd.prog X call lf noFg Tryd.f75 (codeOf Tryd.f75) [st s0] [] 0=some (bo true,[]) :=
  along_sound (ans:=[(4,Ans.l (Ex.exit 0) (f75_S4 s0 i0)),(7,Ans.b true)]) (by kernel_rfl) (ai h0 (ai h1 trivial))
theorem f75_plff (s0:ByteArray)(X:Ext)(call:Caller)(lf i0:Nat)
 (h0:vexec Tryd.prog X call lf 0 noFg (Code.loop (loopN Tryd.f75 0)) (stOf 34 [] [(0,st s0),(2,bo false),(3,i6 0)] [])=some (Ex.exit 0,(f75_S4 s0 i0)))
 (h1:(!ByteArray.toList s0 == ByteArray.toList (ByteArray.mk #[]))=false):vbody Tryd.prog X call lf noFg Tryd.f75 (codeOf Tryd.f75) [st s0] [] 0=some (bo false,[]) :=
  along_sound (ans:=[(4,Ans.l (Ex.exit 0) (f75_S4 s0 i0)),(7,Ans.b false)]) (by kernel_rfl) (ai h0 (ai h1 trivial))
def f75_o0 (s0:ByteArray)(i0:Nat)(n13:Int):Nat :=
  (match decide ((↑i0:Int)<(↑(ByteArray.size s0):Int)) with
  | true=>(match decide (n13<97) with
    | true=>(match decide (n13<48) with
      | true=>(match (n13 != 45) with
        | true=>1
        | false=>0)
      | false=>(match decide (n13>57) with
        | true=>(match (n13 != 45) with
          | true=>2
          | false=>0)
        | false=>0))
    | false=>(match decide (n13>122) with
      | true=>(match decide (n13<48) with
        | true=>(match (n13 != 45) with
          | true=>3
          | false=>0)
        | false=>(match decide (n13>57) with
          | true=>(match (n13 != 45) with
            | true=>4
            | false=>0)
          | false=>0))
      | false=>0))
  | false=>5)
theorem f75_B0 (s0:ByteArray)(X:Ext)(call:Caller)(lf i0:Nat)(n13:Int)
 (g0:decide ((↑i0:Int)<(↑(ByteArray.size s0):Int))=true→keep [] (indexv Tryd.prog 9 (st s0) (i6 (↑i0:Int)))=some (AV.int IntKind.u8 n13,[]))
 (e0:decide ((↑i0:Int)<(↑(ByteArray.size s0):Int))=true→(↑(i0 + 1):Int)=w6 ((↑i0:Int) + 1)) :
    (f75_o0 s0 i0 n13=0→∃ S1,vexec Tryd.prog X call lf 0 noFg (loopN Tryd.f75 0) (f75_F0 s0 i0)=some (Ex.normal,S1)∧forget f75_D0 S1=(f75_F0 s0 (i0 + 1)))∧(f75_o0 s0 i0 n13=1→vexec Tryd.prog X call lf 0 noFg (loopN Tryd.f75 0) (f75_F0 s0 i0)=some (Ex.ret,(f75_S0 s0 i0 n13)))∧(f75_o0 s0 i0 n13=2→vexec Tryd.prog X call lf 0 noFg (loopN Tryd.f75 0) (f75_F0 s0 i0)=some (Ex.ret,(f75_S1 s0 i0 n13)))∧(f75_o0 s0 i0 n13=3→vexec Tryd.prog X call lf 0 noFg (loopN Tryd.f75 0) (f75_F0 s0 i0)=some (Ex.ret,(f75_S2 s0 i0 n13)))∧(f75_o0 s0 i0 n13=4→vexec Tryd.prog X call lf 0 noFg (loopN Tryd.f75 0) (f75_F0 s0 i0)=some (Ex.ret,(f75_S3 s0 i0 n13)))∧(f75_o0 s0 i0 n13=5→vexec Tryd.prog X call lf 0 noFg (loopN Tryd.f75 0) (f75_F0 s0 i0)=some (Ex.exit 0,(f75_S4 s0 i0))):=by
  unfold f75_o0
  cases c0:decide ((↑i0:Int)<(↑(ByteArray.size s0):Int)) with
  | true =>
    cases c1:decide (n13<97) with
    | true =>
      cases c2:decide (n13<48) with
      | true =>
        cases c3:(n13 != 45) with
        | true =>
          exact ⟨fun h=>absurd (show (1:Nat)=0 from h) (by decide),fun _=>f75_r0_tttt s0 X call lf i0 n13 c0 (g0 c0) c1 c2 c3,fun h=>absurd (show (1:Nat)=2 from h) (by decide),fun h=>absurd (show (1:Nat)=3 from h) (by decide),fun h=>absurd (show (1:Nat)=4 from h) (by decide),fun h=>absurd (show (1:Nat)=5 from h) (by decide)⟩
        | false =>
          exact ⟨fun _=>f75_s0_tttf s0 X call lf i0 n13 c0 (g0 c0) c1 c2 c3 (e0 c0),fun h=>absurd (show (0:Nat)=1 from h) (by decide),fun h=>absurd (show (0:Nat)=2 from h) (by decide),fun h=>absurd (show (0:Nat)=3 from h) (by decide),fun h=>absurd (show (0:Nat)=4 from h) (by decide),fun h=>absurd (show (0:Nat)=5 from h) (by decide)⟩
      | false =>
        cases c3:decide (n13>57) with
        | true =>
          cases c4:(n13 != 45) with
          | true =>
            exact ⟨fun h=>absurd (show (2:Nat)=0 from h) (by decide),fun h=>absurd (show (2:Nat)=1 from h) (by decide),fun _=>f75_r0_ttftt s0 X call lf i0 n13 c0 (g0 c0) c1 c2 c3 c4,fun h=>absurd (show (2:Nat)=3 from h) (by decide),fun h=>absurd (show (2:Nat)=4 from h) (by decide),fun h=>absurd (show (2:Nat)=5 from h) (by decide)⟩
          | false =>
            exact ⟨fun _=>f75_s0_ttftf s0 X call lf i0 n13 c0 (g0 c0) c1 c2 c3 c4 (e0 c0),fun h=>absurd (show (0:Nat)=1 from h) (by decide),fun h=>absurd (show (0:Nat)=2 from h) (by decide),fun h=>absurd (show (0:Nat)=3 from h) (by decide),fun h=>absurd (show (0:Nat)=4 from h) (by decide),fun h=>absurd (show (0:Nat)=5 from h) (by decide)⟩
        | false =>
          exact ⟨fun _=>f75_s0_ttff s0 X call lf i0 n13 c0 (g0 c0) c1 c2 c3 (e0 c0),fun h=>absurd (show (0:Nat)=1 from h) (by decide),fun h=>absurd (show (0:Nat)=2 from h) (by decide),fun h=>absurd (show (0:Nat)=3 from h) (by decide),fun h=>absurd (show (0:Nat)=4 from h) (by decide),fun h=>absurd (show (0:Nat)=5 from h) (by decide)⟩
    | false =>
      cases c2:decide (n13>122) with
      | true =>
        cases c3:decide (n13<48) with
        | true =>
          cases c4:(n13 != 45) with
          | true =>
            exact ⟨fun h=>absurd (show (3:Nat)=0 from h) (by decide),fun h=>absurd (show (3:Nat)=1 from h) (by decide),fun h=>absurd (show (3:Nat)=2 from h) (by decide),fun _=>f75_r0_tfttt s0 X call lf i0 n13 c0 (g0 c0) c1 c2 c3 c4,fun h=>absurd (show (3:Nat)=4 from h) (by decide),fun h=>absurd (show (3:Nat)=5 from h) (by decide)⟩
          | false =>
            exact ⟨fun _=>f75_s0_tfttf s0 X call lf i0 n13 c0 (g0 c0) c1 c2 c3 c4 (e0 c0),fun h=>absurd (show (0:Nat)=1 from h) (by decide),fun h=>absurd (show (0:Nat)=2 from h) (by decide),fun h=>absurd (show (0:Nat)=3 from h) (by decide),fun h=>absurd (show (0:Nat)=4 from h) (by decide),fun h=>absurd (show (0:Nat)=5 from h) (by decide)⟩
        | false =>
          cases c4:decide (n13>57) with
          | true =>
            cases c5:(n13 != 45) with
            | true =>
              exact ⟨fun h=>absurd (show (4:Nat)=0 from h) (by decide),fun h=>absurd (show (4:Nat)=1 from h) (by decide),fun h=>absurd (show (4:Nat)=2 from h) (by decide),fun h=>absurd (show (4:Nat)=3 from h) (by decide),fun _=>f75_r0_tftftt s0 X call lf i0 n13 c0 (g0 c0) c1 c2 c3 c4 c5,fun h=>absurd (show (4:Nat)=5 from h) (by decide)⟩
            | false =>
              exact ⟨fun _=>f75_s0_tftftf s0 X call lf i0 n13 c0 (g0 c0) c1 c2 c3 c4 c5 (e0 c0),fun h=>absurd (show (0:Nat)=1 from h) (by decide),fun h=>absurd (show (0:Nat)=2 from h) (by decide),fun h=>absurd (show (0:Nat)=3 from h) (by decide),fun h=>absurd (show (0:Nat)=4 from h) (by decide),fun h=>absurd (show (0:Nat)=5 from h) (by decide)⟩
          | false =>
            exact ⟨fun _=>f75_s0_tftff s0 X call lf i0 n13 c0 (g0 c0) c1 c2 c3 c4 (e0 c0),fun h=>absurd (show (0:Nat)=1 from h) (by decide),fun h=>absurd (show (0:Nat)=2 from h) (by decide),fun h=>absurd (show (0:Nat)=3 from h) (by decide),fun h=>absurd (show (0:Nat)=4 from h) (by decide),fun h=>absurd (show (0:Nat)=5 from h) (by decide)⟩
      | false =>
        exact ⟨fun _=>f75_s0_tff s0 X call lf i0 n13 c0 (g0 c0) c1 c2 (e0 c0),fun h=>absurd (show (0:Nat)=1 from h) (by decide),fun h=>absurd (show (0:Nat)=2 from h) (by decide),fun h=>absurd (show (0:Nat)=3 from h) (by decide),fun h=>absurd (show (0:Nat)=4 from h) (by decide),fun h=>absurd (show (0:Nat)=5 from h) (by decide)⟩
  | false =>
    exact ⟨fun h=>absurd (show (5:Nat)=0 from h) (by decide),fun h=>absurd (show (5:Nat)=1 from h) (by decide),fun h=>absurd (show (5:Nat)=2 from h) (by decide),fun h=>absurd (show (5:Nat)=3 from h) (by decide),fun h=>absurd (show (5:Nat)=4 from h) (by decide),fun _=>f75_r0_f s0 X call lf i0 c0⟩
theorem f75_X0 (s0:ByteArray)(X:Ext)(call:Caller)(lf i0:Nat)(n13:Int)
 (g0:decide ((↑i0:Int)<(↑(ByteArray.size s0):Int))=true→keep [] (indexv Tryd.prog 9 (st s0) (i6 (↑i0:Int)))=some (AV.int IntKind.u8 n13,[])) :
    (f75_o0 s0 i0 n13=1→vexec Tryd.prog X call lf 0 noFg (loopN Tryd.f75 0) (f75_F0 s0 i0)=some (Ex.ret,(f75_S0 s0 i0 n13)))∧(f75_o0 s0 i0 n13=2→vexec Tryd.prog X call lf 0 noFg (loopN Tryd.f75 0) (f75_F0 s0 i0)=some (Ex.ret,(f75_S1 s0 i0 n13)))∧(f75_o0 s0 i0 n13=3→vexec Tryd.prog X call lf 0 noFg (loopN Tryd.f75 0) (f75_F0 s0 i0)=some (Ex.ret,(f75_S2 s0 i0 n13)))∧(f75_o0 s0 i0 n13=4→vexec Tryd.prog X call lf 0 noFg (loopN Tryd.f75 0) (f75_F0 s0 i0)=some (Ex.ret,(f75_S3 s0 i0 n13)))∧(f75_o0 s0 i0 n13=5→vexec Tryd.prog X call lf 0 noFg (loopN Tryd.f75 0) (f75_F0 s0 i0)=some (Ex.exit 0,(f75_S4 s0 i0))):=by
  unfold f75_o0
  cases c0:decide ((↑i0:Int)<(↑(ByteArray.size s0):Int)) with
  | true =>
    cases c1:decide (n13<97) with
    | true =>
      cases c2:decide (n13<48) with
      | true =>
        cases c3:(n13 != 45) with
        | true =>
          exact ⟨fun _=>f75_r0_tttt s0 X call lf i0 n13 c0 (g0 c0) c1 c2 c3,fun h=>absurd (show (1:Nat)=2 from h) (by decide),fun h=>absurd (show (1:Nat)=3 from h) (by decide),fun h=>absurd (show (1:Nat)=4 from h) (by decide),fun h=>absurd (show (1:Nat)=5 from h) (by decide)⟩
        | false =>
          exact ⟨fun h=>absurd (show (0:Nat)=1 from h) (by decide),fun h=>absurd (show (0:Nat)=2 from h) (by decide),fun h=>absurd (show (0:Nat)=3 from h) (by decide),fun h=>absurd (show (0:Nat)=4 from h) (by decide),fun h=>absurd (show (0:Nat)=5 from h) (by decide)⟩
      | false =>
        cases c3:decide (n13>57) with
        | true =>
          cases c4:(n13 != 45) with
          | true =>
            exact ⟨fun h=>absurd (show (2:Nat)=1 from h) (by decide),fun _=>f75_r0_ttftt s0 X call lf i0 n13 c0 (g0 c0) c1 c2 c3 c4,fun h=>absurd (show (2:Nat)=3 from h) (by decide),fun h=>absurd (show (2:Nat)=4 from h) (by decide),fun h=>absurd (show (2:Nat)=5 from h) (by decide)⟩
          | false =>
            exact ⟨fun h=>absurd (show (0:Nat)=1 from h) (by decide),fun h=>absurd (show (0:Nat)=2 from h) (by decide),fun h=>absurd (show (0:Nat)=3 from h) (by decide),fun h=>absurd (show (0:Nat)=4 from h) (by decide),fun h=>absurd (show (0:Nat)=5 from h) (by decide)⟩
        | false =>
          exact ⟨fun h=>absurd (show (0:Nat)=1 from h) (by decide),fun h=>absurd (show (0:Nat)=2 from h) (by decide),fun h=>absurd (show (0:Nat)=3 from h) (by decide),fun h=>absurd (show (0:Nat)=4 from h) (by decide),fun h=>absurd (show (0:Nat)=5 from h) (by decide)⟩
    | false =>
      cases c2:decide (n13>122) with
      | true =>
        cases c3:decide (n13<48) with
        | true =>
          cases c4:(n13 != 45) with
          | true =>
            exact ⟨fun h=>absurd (show (3:Nat)=1 from h) (by decide),fun h=>absurd (show (3:Nat)=2 from h) (by decide),fun _=>f75_r0_tfttt s0 X call lf i0 n13 c0 (g0 c0) c1 c2 c3 c4,fun h=>absurd (show (3:Nat)=4 from h) (by decide),fun h=>absurd (show (3:Nat)=5 from h) (by decide)⟩
          | false =>
            exact ⟨fun h=>absurd (show (0:Nat)=1 from h) (by decide),fun h=>absurd (show (0:Nat)=2 from h) (by decide),fun h=>absurd (show (0:Nat)=3 from h) (by decide),fun h=>absurd (show (0:Nat)=4 from h) (by decide),fun h=>absurd (show (0:Nat)=5 from h) (by decide)⟩
        | false =>
          cases c4:decide (n13>57) with
          | true =>
            cases c5:(n13 != 45) with
            | true =>
              exact ⟨fun h=>absurd (show (4:Nat)=1 from h) (by decide),fun h=>absurd (show (4:Nat)=2 from h) (by decide),fun h=>absurd (show (4:Nat)=3 from h) (by decide),fun _=>f75_r0_tftftt s0 X call lf i0 n13 c0 (g0 c0) c1 c2 c3 c4 c5,fun h=>absurd (show (4:Nat)=5 from h) (by decide)⟩
            | false =>
              exact ⟨fun h=>absurd (show (0:Nat)=1 from h) (by decide),fun h=>absurd (show (0:Nat)=2 from h) (by decide),fun h=>absurd (show (0:Nat)=3 from h) (by decide),fun h=>absurd (show (0:Nat)=4 from h) (by decide),fun h=>absurd (show (0:Nat)=5 from h) (by decide)⟩
          | false =>
            exact ⟨fun h=>absurd (show (0:Nat)=1 from h) (by decide),fun h=>absurd (show (0:Nat)=2 from h) (by decide),fun h=>absurd (show (0:Nat)=3 from h) (by decide),fun h=>absurd (show (0:Nat)=4 from h) (by decide),fun h=>absurd (show (0:Nat)=5 from h) (by decide)⟩
      | false =>
        exact ⟨fun h=>absurd (show (0:Nat)=1 from h) (by decide),fun h=>absurd (show (0:Nat)=2 from h) (by decide),fun h=>absurd (show (0:Nat)=3 from h) (by decide),fun h=>absurd (show (0:Nat)=4 from h) (by decide),fun h=>absurd (show (0:Nat)=5 from h) (by decide)⟩
  | false =>
    exact ⟨fun h=>absurd (show (5:Nat)=1 from h) (by decide),fun h=>absurd (show (5:Nat)=2 from h) (by decide),fun h=>absurd (show (5:Nat)=3 from h) (by decide),fun h=>absurd (show (5:Nat)=4 from h) (by decide),fun _=>f75_r0_f s0 X call lf i0 c0⟩
theorem f75_M (s0:ByteArray)(X:Ext)(call:Caller)(lf n:Nat)(n13:Nat→Int)
 (hn:n<lf)
 (g0:∀ i0,i0 ≤ n→decide ((↑i0:Int)<(↑(ByteArray.size s0):Int))=true→keep [] (indexv Tryd.prog 9 (st s0) (i6 (↑i0:Int)))=some (AV.int IntKind.u8 (n13 i0),[]))
 (e0:∀ i0,i0<n→decide ((↑i0:Int)<(↑(ByteArray.size s0):Int))=true→(↑(i0 + 1):Int)=w6 ((↑i0:Int) + 1))
 (hz:∀ j,j<n→f75_o0 s0 j (n13 j)=0) :
    (f75_o0 s0 n (n13 n)=1→vbody Tryd.prog X call lf noFg Tryd.f75 (codeOf Tryd.f75) [st s0] [] 0=some (bo false,[]))∧(f75_o0 s0 n (n13 n)=2→vbody Tryd.prog X call lf noFg Tryd.f75 (codeOf Tryd.f75) [st s0] [] 0=some (bo false,[]))∧(f75_o0 s0 n (n13 n)=3→vbody Tryd.prog X call lf noFg Tryd.f75 (codeOf Tryd.f75) [st s0] [] 0=some (bo false,[]))∧(f75_o0 s0 n (n13 n)=4→vbody Tryd.prog X call lf noFg Tryd.f75 (codeOf Tryd.f75) [st s0] [] 0=some (bo false,[]))∧(f75_o0 s0 n (n13 n)=5→(!ByteArray.toList s0 == ByteArray.toList (ByteArray.mk #[]))=true→vbody Tryd.prog X call lf noFg Tryd.f75 (codeOf Tryd.f75) [st s0] [] 0=some (bo true,[]))∧(f75_o0 s0 n (n13 n)=5→(!ByteArray.toList s0 == ByteArray.toList (ByteArray.mk #[]))=false→vbody Tryd.prog X call lf noFg Tryd.f75 (codeOf Tryd.f75) [st s0] [] 0=some (bo false,[])):=by
  have key:∀ j,j<n→_:=fun j hj=>(f75_B0 s0 X call lf j (n13 j) (g0 j (Nat.le_of_lt hj)) (e0 j hj)).1 (hz j hj)
  have kn:=f75_X0 s0 X call lf n (n13 n) (g0 n (Nat.le_refl n))
  exact ⟨fun hk=>f75_pltttt s0 X call lf n (n13 n) (f75_L0 s0 X call lf n _ _ hn key (kn.1 hk) (by simp)),
    fun hk=>f75_plttftt s0 X call lf n (n13 n) (f75_L0 s0 X call lf n _ _ hn key (kn.2.1 hk) (by simp)),
    fun hk=>f75_pltfttt s0 X call lf n (n13 n) (f75_L0 s0 X call lf n _ _ hn key (kn.2.2.1 hk) (by simp)),
    fun hk=>f75_pltftftt s0 X call lf n (n13 n) (f75_L0 s0 X call lf n _ _ hn key (kn.2.2.2.1 hk) (by simp)),
    fun hk q0=>f75_plft s0 X call lf n (f75_L0 s0 X call lf n _ _ hn key (kn.2.2.2.2 hk) (by simp)) q0,
    fun hk q0=>f75_plff s0 X call lf n (f75_L0 s0 X call lf n _ _ hn key (kn.2.2.2.2 hk) (by simp)) q0⟩
end Go.Proofs.Lex
end
/- Lexicon: what a name is; the four functions that say so. -/
section
open Go Go.Vm Go.Proofs
namespace Go.Proofs.Lex
theorem first_fail {p:Nat→Prop}:∀ (n:Nat),(∀ i,i < n→p i) ∨ ∃ k,k < n ∧ ¬ p k∧∀ i,i < k→p i
  | 0 => .inl fun i h=>absurd h (by omega)
  | n + 1 => by
    rcases first_fail (p:=p) n with h | ⟨k,h1,h2,h3⟩
    · by_cases hp : p n
      · refine .inl fun i hi => ?_
        by_cases e:i=n
        · subst e; exact hp
        · exact h i (by omega)
      · exact .inr ⟨n,by omega,hp,h⟩
    · exact .inr ⟨k,by omega,h2,h3⟩
def empB (s:ByteArray):Bool:=s.toList == (ByteArray.mk #[]).toList
/-- All bytes fit. -/
def allB (p:Nat→Bool) (s:ByteArray):Bool:=(List.range s.size).all fun i=>p (byteN s i)
theorem allB_true {p:Nat→Bool} {s:ByteArray}:allB p s=true ↔ ∀ i,i < s.size→p (byteN s i)=true:=by
  simp [allB,List.all_eq_true]
theorem allB_false {p:Nat→Bool} {s:ByteArray} {k:Nat} (hk:k < s.size) (h : ¬ p (byteN s k)=true):allB p s=false:=by
  rw [Bool.eq_false_iff]
  intro h2
  exact h (allB_true.1 h2 k hk)
def pL (c:Nat):Bool:=decide (97 ≤ c∧c ≤ 122 ∨ 48 ≤ c∧c ≤ 57 ∨ c=45 ∨ c=95)
def pF (c:Nat):Bool:=decide (97 ≤ c∧c ≤ 122 ∨ 48 ≤ c∧c ≤ 57 ∨ c=45)
/-- A name of a lexicon; of a feature. -/
def nameL (s:ByteArray):Bool:=allB pL s && !empB s
def nameF (s:ByteArray):Bool:=allB pF s && !empB s
theorem emp_iff {s:ByteArray}:empB s=true ↔ s.size=0:=by
  unfold empB
  rw [beq_iff_eq,ByteArray.toList_eq,ByteArray.toList_eq]
  simp only [ByteArray.size]
  cases s with
  | mk d=>simp [List.eq_nil_iff_length_eq_zero]
section
variable {s:ByteArray} {X:Ext} {call:Caller} {lf:Nat}
theorem o43 (s:ByteArray) (i c:Nat):(i < s.size→pL c=true→f43_o0 s i c=0)∧(i < s.size → ¬ pL c=true→f43_o0 s i c=1 ∨ f43_o0 s i c=2 ∨ f43_o0 s i c=3 ∨ f43_o0 s i c=4)∧(¬ i < s.size→f43_o0 s i c=5):=by
  unfold f43_o0 pL
  simp only [decide_eq_true_eq]
  refine ⟨fun h1 h2 => ?_,fun h1 h2 => ?_,fun h1 => ?_⟩
  all_goals (repeat' split)
  all_goals simp_all
  all_goals omega
theorem name43 (hs:s.size ≤ big) (hlf:s.size < lf):vbody Tryd.prog X call lf noFg Tryd.f43 (codeOf Tryd.f43) [st s] [] 0=some (bo (nameL s),[]):=by
  have hb:s.size ≤ 140737488355328:=hs
  rcases first_fail (p:=fun i=>pL (byteN s i)=true) s.size with hall | ⟨k,hk,hbad,hbef⟩
  · have M := f43_M s X call lf s.size (fun i => byteN s i) hlf (fun i _ h => at_byte (by simpa using h)) (fun i h _ => up h hs) (fun j hj => (o43 s j _).1 hj (hall j hj))
    have ho:=(o43 s s.size (byteN s s.size)).2.2 (by omega)
    unfold nameL
    rw [allB_true.2 hall,Bool.true_and]
    cases he:(!empB s) with
    | true=>exact M.2.2.2.2.1 ho he
    | false=>exact M.2.2.2.2.2 ho he
  · have M := f43_M s X call lf k (fun i => byteN s i) (by omega) (fun i _ h => at_byte (by simpa using h)) (fun i h _ => up h (by omega)) (fun j hj => (o43 s j _).1 (by omega) (hbef j hj))
    unfold nameL
    rw [allB_false hk hbad,Bool.false_and]
    rcases (o43 s k (byteN s k)).2.1 hk hbad with h | h | h | h
    · exact M.1 h
    · exact M.2.1 h
    · exact M.2.2.1 h
    · exact M.2.2.2.1 h
theorem o75 (s:ByteArray) (i c:Nat):(i < s.size→pF c=true→f75_o0 s i c=0)∧(i < s.size → ¬ pF c=true→f75_o0 s i c=1 ∨ f75_o0 s i c=2 ∨ f75_o0 s i c=3 ∨ f75_o0 s i c=4)∧(¬ i < s.size→f75_o0 s i c=5):=by
  unfold f75_o0 pF
  simp only [decide_eq_true_eq]
  refine ⟨fun h1 h2 => ?_,fun h1 h2 => ?_,fun h1 => ?_⟩
  all_goals (repeat' split)
  all_goals simp_all
  all_goals omega
theorem name75 (hs:s.size ≤ big) (hlf:s.size < lf):vbody Tryd.prog X call lf noFg Tryd.f75 (codeOf Tryd.f75) [st s] [] 0=some (bo (nameF s),[]):=by
  have hb:s.size ≤ 140737488355328:=hs
  rcases first_fail (p:=fun i=>pF (byteN s i)=true) s.size with hall | ⟨k,hk,hbad,hbef⟩
  · have M := f75_M s X call lf s.size (fun i => byteN s i) hlf (fun i _ h => at_byte (by simpa using h)) (fun i h _ => up h hs) (fun j hj => (o75 s j _).1 hj (hall j hj))
    have ho:=(o75 s s.size (byteN s s.size)).2.2 (by omega)
    unfold nameF
    rw [allB_true.2 hall,Bool.true_and]
    cases he:(!empB s) with
    | true=>exact M.2.2.2.2.1 ho he
    | false=>exact M.2.2.2.2.2 ho he
  · have M := f75_M s X call lf k (fun i => byteN s i) (by omega) (fun i _ h => at_byte (by simpa using h)) (fun i h _ => up h (by omega)) (fun j hj => (o75 s j _).1 (by omega) (hbef j hj))
    unfold nameF
    rw [allB_false hk hbad,Bool.false_and]
    rcases (o75 s k (byteN s k)).2.1 hk hbad with h | h | h | h
    · exact M.1 h
    · exact M.2.1 h
    · exact M.2.2.1 h
    · exact M.2.2.2.1 h
end
end Go.Proofs.Lex
end
/- Lexicon: comparisons, walked (printed) -/
section
open Go Go.Vm Go.Proofs
namespace Go.Proofs.Lex
def fg45:Nat→List Nat
  | 5003=>[1]
  | _=>[]
def f45_F0 (F0:List Feat)(i0:Nat):St :=
  stOf 41 [2,3,4,8,9,10,11,12,13,14,15,16,17,18,19,20,21,22,23,24,25,26,27,28,29,30,31,32,33,34,35,36,37] [(0,lro F0.length 2 (F0.flatMap featC)),(5,lro F0.length 2 (F0.flatMap featC)),(6,i6 (↑F0.length:Int)),(7,i6 (↑i0:Int))] []
def f45_S0 (F0:List Feat):St :=
  stOf 41 [] [(0,lro F0.length 2 (F0.flatMap featC)),(2,bo false),(5,lro F0.length 2 (F0.flatMap featC)),(6,i6 (↑F0.length:Int)),(7,i6 0)] []
abbrev f45_D0:List Nat:=[37,2,36,35,34,33,32,31,30,29,28,27,26,25,24,23,22,21,20,19,18,17,16,15,14,13,12,3,4,11,10,9,8]
theorem f45_L0 (F0:List Feat)(X:Ext)(call:Caller)(lf n:Nat)(x:Ex) (S' : St)
 (hn:n<lf)
 (hs:∀ j,j<n→∃ S1,vexec Tryd.prog X call lf 0 fg45 (loopN Tryd.f45 0) (f45_F0 F0 j)=some (Ex.normal,S1)∧forget f45_D0 S1=(f45_F0 F0 (j + 1)))
 (he:vexec Tryd.prog X call lf 0 fg45 (loopN Tryd.f45 0) (f45_F0 F0 n)=some (x,S'))
 (hx:x ≠ Ex.normal):vexec Tryd.prog X call lf 0 fg45 (Go.Code.loop (loopN Tryd.f45 0)) (f45_S0 F0)=some (x,S') :=
  loop_runK (by kernel_rfl) (fun j=>(f45_F0 F0 j)) n hn (by show forget f45_D0 (f45_S0 F0)=(f45_F0 F0 0); unfold f45_F0; show _=_; kernel_rfl) hs he hx
def f45_S1 (F0:List Feat)(i0:Nat)(a b:ByteArray)(r10:List AV)(c d:ByteArray)(r29:List AV):St :=
  stOf 41 [37] [(0,lro F0.length 2 (F0.flatMap featC)),(2,bo false),(3,i6 (↑i0:Int)),(4,AV.eaddr [st a,st b]),(5,lro F0.length 2 (F0.flatMap featC)),(6,i6 (↑F0.length:Int)),(7,i6 (↑i0:Int)),(8,bo true),(9,i6 (↑i0:Int)),(10,AV.eaddr (st a::st b::r10)),(11,AV.agg [st a,st b]),(12,AV.eaddr [st a,st b]),(13,st a),(14,bo true),(15,bo false),(16,bo false),(17,AV.eaddr [st b]),(18,st b),(19,bo true),(20,bo false),(21,bo false),(22,bo false),(23,i6 (↑i0:Int)),(24,bo true),(25,bo true),(26,lro F0.length 2 (F0.flatMap featC)),(27,i6 (↑i0:Int)),(28,i6 (w6 ((↑i0:Int) - 1))),(29,AV.eaddr (st c::st d::r29)),(30,AV.eaddr (st c::st d::r29)),(31,st c),(32,AV.eaddr [st a,st b]),(33,st a),(34,bo true),(35,bo true),(36,bo true)] []
theorem f45_r0_ttttt (F0:List Feat)(X:Ext)(call:Caller)(lf i0:Nat)(a c:ByteArray)(r10:List AV)(d e:ByteArray)(r29:List AV)
 (h0:decide ((↑i0:Int)<(↑F0.length:Int))=true)
 (h1:keep [] (indexAddrv Tryd.prog 31 [] (lro F0.length 2 (F0.flatMap featC)) (i6 (↑i0:Int)))=some (AV.eaddr (st a::st c::r10),[]))
 (h2:callv X call true 75 [st a] [] 0=some (bo true,[]))
 (h3:callv X call true 75 [st c] [] 0=some (bo true,[]))
 (h4:decide ((↑i0:Int)>0)=true)
 (h5:keep [] (indexAddrv Tryd.prog 31 [] (lro F0.length 2 (F0.flatMap featC)) (i6 (w6 ((↑i0:Int) - 1))))=some (AV.eaddr (st d::st e::r29),[]))
 (h6:(!Op.bytesLess d.toList a.toList)=true):vexec Tryd.prog X call lf 0 fg45 (loopN Tryd.f45 0) (f45_F0 F0 i0)=some (Ex.ret,(f45_S1 F0 i0 a c r10 d e r29)) :=
  around_sound (ans:=[(1,Ans.b true),(5,Ans.v (AV.eaddr (st a::st c::r10))),(10,Ans.v (bo true)),(18,Ans.v (bo true)),(26,Ans.b true),(36,Ans.v (AV.eaddr (st d::st e::r29))),(46,Ans.b true)]) (by kernel_rfl) (ai h0 (ai h1 (ai h2 (ai h3 (ai h4 (ai h5 (ai h6 trivial)))))))
theorem f45_plttttt (F0:List Feat)(X:Ext)(call:Caller)(lf i0:Nat)(a b:ByteArray)(r10:List AV)(c d:ByteArray)(r29:List AV)
 (h0:vexec Tryd.prog X call lf 0 fg45 (Code.loop (loopN Tryd.f45 0)) (f45_S0 F0)=some (Ex.ret,(f45_S1 F0 i0 a b r10 c d r29))):vbody Tryd.prog X call lf fg45 Tryd.f45 (codeOf Tryd.f45) [featsV F0] [] 0=some (bo false,[]) :=
  along_sound (ans:=[(6,Ans.l Ex.ret (f45_S1 F0 i0 a b r10 c d r29))]) (by kernel_rfl) (ai h0 trivial)
theorem f45_s0_ttttf (F0:List Feat)(X:Ext)(call:Caller)(lf i0:Nat)(a c:ByteArray)(r10:List AV)(d e:ByteArray)(r29:List AV)
 (h0:decide ((↑i0:Int)<(↑F0.length:Int))=true)
 (h1:keep [] (indexAddrv Tryd.prog 31 [] (lro F0.length 2 (F0.flatMap featC)) (i6 (↑i0:Int)))=some (AV.eaddr (st a::st c::r10),[]))
 (h2:callv X call true 75 [st a] [] 0=some (bo true,[]))
 (h3:callv X call true 75 [st c] [] 0=some (bo true,[]))
 (h4:decide ((↑i0:Int)>0)=true)
 (h5:keep [] (indexAddrv Tryd.prog 31 [] (lro F0.length 2 (F0.flatMap featC)) (i6 (w6 ((↑i0:Int) - 1))))=some (AV.eaddr (st d::st e::r29),[]))
 (h6:(!Op.bytesLess d.toList a.toList)=false)
 (e0:(↑(i0 + 1):Int)=w6 ((↑i0:Int) + 1)):∃ S1,vexec Tryd.prog X call lf 0 fg45 (loopN Tryd.f45 0) (f45_F0 F0 i0)=some (Ex.normal,S1)∧forget f45_D0 S1=(f45_F0 F0 (i0 + 1)) :=
  ⟨stOf 41 [2] [(0,lro F0.length 2 (F0.flatMap featC)),(3,i6 (↑i0:Int)),(4,AV.eaddr [st a,st c]),(5,lro F0.length 2 (F0.flatMap featC)),(6,i6 (↑F0.length:Int)),(7,i6 (w6 ((↑i0:Int) + 1))),(8,bo true),(9,i6 (↑i0:Int)),(10,AV.eaddr (st a::st c::r10)),(11,AV.agg [st a,st c]),(12,AV.eaddr [st a,st c]),(13,st a),(14,bo true),(15,bo false),(16,bo false),(17,AV.eaddr [st c]),(18,st c),(19,bo true),(20,bo false),(21,bo false),(22,bo false),(23,i6 (↑i0:Int)),(24,bo true),(25,bo true),(26,lro F0.length 2 (F0.flatMap featC)),(27,i6 (↑i0:Int)),(28,i6 (w6 ((↑i0:Int) - 1))),(29,AV.eaddr (st d::st e::r29)),(30,AV.eaddr (st d::st e::r29)),(31,st d),(32,AV.eaddr [st a,st c]),(33,st a),(34,bo false),(35,bo false),(36,bo false),(37,i6 (w6 ((↑i0:Int) + 1)))] [],around_sound (ans:=[(1,Ans.b true),(5,Ans.v (AV.eaddr (st a::st c::r10))),(10,Ans.v (bo true)),(18,Ans.v (bo true)),(26,Ans.b true),(36,Ans.v (AV.eaddr (st d::st e::r29))),(46,Ans.b false)]) (by kernel_rfl) (ai h0 (ai h1 (ai h2 (ai h3 (ai h4 (ai h5 (ai h6 trivial))))))),by unfold f45_F0; rw [e0]; show _=_; kernel_rfl⟩
theorem f45_s0_tttf (F0:List Feat)(X:Ext)(call:Caller)(lf i0:Nat)(a c:ByteArray)(r10:List AV)
 (h0:decide ((↑i0:Int)<(↑F0.length:Int))=true)
 (h1:keep [] (indexAddrv Tryd.prog 31 [] (lro F0.length 2 (F0.flatMap featC)) (i6 (↑i0:Int)))=some (AV.eaddr (st a::st c::r10),[]))
 (h2:callv X call true 75 [st a] [] 0=some (bo true,[]))
 (h3:callv X call true 75 [st c] [] 0=some (bo true,[]))
 (h4:decide ((↑i0:Int)>0)=false)
 (e0:(↑(i0 + 1):Int)=w6 ((↑i0:Int) + 1)):∃ S1,vexec Tryd.prog X call lf 0 fg45 (loopN Tryd.f45 0) (f45_F0 F0 i0)=some (Ex.normal,S1)∧forget f45_D0 S1=(f45_F0 F0 (i0 + 1)) :=
  ⟨stOf 41 [2] [(0,lro F0.length 2 (F0.flatMap featC)),(3,i6 (↑i0:Int)),(4,AV.eaddr [st a,st c]),(5,lro F0.length 2 (F0.flatMap featC)),(6,i6 (↑F0.length:Int)),(7,i6 (w6 ((↑i0:Int) + 1))),(8,bo true),(9,i6 (↑i0:Int)),(10,AV.eaddr (st a::st c::r10)),(11,AV.agg [st a,st c]),(12,AV.eaddr [st a,st c]),(13,st a),(14,bo true),(15,bo false),(16,bo false),(17,AV.eaddr [st c]),(18,st c),(19,bo true),(20,bo false),(21,bo false),(22,bo false),(23,i6 (↑i0:Int)),(24,bo false),(25,bo false),(35,bo false),(36,bo false),(37,i6 (w6 ((↑i0:Int) + 1)))] [],around_sound (ans:=[(1,Ans.b true),(5,Ans.v (AV.eaddr (st a::st c::r10))),(10,Ans.v (bo true)),(18,Ans.v (bo true)),(26,Ans.b false)]) (by kernel_rfl) (ai h0 (ai h1 (ai h2 (ai h3 (ai h4 trivial))))),by unfold f45_F0; rw [e0]; show _=_; kernel_rfl⟩
def f45_S2 (F0:List Feat)(i0:Nat)(a b:ByteArray)(r10:List AV):St :=
  stOf 41 [37] [(0,lro F0.length 2 (F0.flatMap featC)),(2,bo false),(3,i6 (↑i0:Int)),(4,AV.eaddr [st a,st b]),(5,lro F0.length 2 (F0.flatMap featC)),(6,i6 (↑F0.length:Int)),(7,i6 (↑i0:Int)),(8,bo true),(9,i6 (↑i0:Int)),(10,AV.eaddr (st a::st b::r10)),(11,AV.agg [st a,st b]),(12,AV.eaddr [st a,st b]),(13,st a),(14,bo true),(15,bo false),(16,bo false),(17,AV.eaddr [st b]),(18,st b),(19,bo false),(20,bo true),(21,bo true),(22,bo true),(36,bo true)] []
theorem f45_r0_ttf (F0:List Feat)(X:Ext)(call:Caller)(lf i0:Nat)(a c:ByteArray)(r10:List AV)
 (h0:decide ((↑i0:Int)<(↑F0.length:Int))=true)
 (h1:keep [] (indexAddrv Tryd.prog 31 [] (lro F0.length 2 (F0.flatMap featC)) (i6 (↑i0:Int)))=some (AV.eaddr (st a::st c::r10),[]))
 (h2:callv X call true 75 [st a] [] 0=some (bo true,[]))
 (h3:callv X call true 75 [st c] [] 0=some (bo false,[])):vexec Tryd.prog X call lf 0 fg45 (loopN Tryd.f45 0) (f45_F0 F0 i0)=some (Ex.ret,(f45_S2 F0 i0 a c r10)) :=
  around_sound (ans:=[(1,Ans.b true),(5,Ans.v (AV.eaddr (st a::st c::r10))),(10,Ans.v (bo true)),(18,Ans.v (bo false))]) (by kernel_rfl) (ai h0 (ai h1 (ai h2 (ai h3 trivial))))
theorem f45_plttf (F0:List Feat)(X:Ext)(call:Caller)(lf i0:Nat)(a b:ByteArray)(r10:List AV)
 (h0:vexec Tryd.prog X call lf 0 fg45 (Code.loop (loopN Tryd.f45 0)) (f45_S0 F0)=some (Ex.ret,(f45_S2 F0 i0 a b r10))):vbody Tryd.prog X call lf fg45 Tryd.f45 (codeOf Tryd.f45) [featsV F0] [] 0=some (bo false,[]) :=
  along_sound (ans:=[(6,Ans.l Ex.ret (f45_S2 F0 i0 a b r10))]) (by kernel_rfl) (ai h0 trivial)
def f45_S3 (F0:List Feat)(i0:Nat)(a b:ByteArray)(r10:List AV):St :=
  stOf 41 [37] [(0,lro F0.length 2 (F0.flatMap featC)),(2,bo false),(3,i6 (↑i0:Int)),(4,AV.eaddr [st a,st b]),(5,lro F0.length 2 (F0.flatMap featC)),(6,i6 (↑F0.length:Int)),(7,i6 (↑i0:Int)),(8,bo true),(9,i6 (↑i0:Int)),(10,AV.eaddr (st a::st b::r10)),(11,AV.agg [st a,st b]),(12,AV.eaddr [st a,st b]),(13,st a),(14,bo false),(15,bo true),(16,bo true),(21,bo true),(22,bo true),(36,bo true)] []
theorem f45_r0_tf (F0:List Feat)(X:Ext)(call:Caller)(lf i0:Nat)(a c:ByteArray)(r10:List AV)
 (h0:decide ((↑i0:Int)<(↑F0.length:Int))=true)
 (h1:keep [] (indexAddrv Tryd.prog 31 [] (lro F0.length 2 (F0.flatMap featC)) (i6 (↑i0:Int)))=some (AV.eaddr (st a::st c::r10),[]))
 (h2:callv X call true 75 [st a] [] 0=some (bo false,[])):vexec Tryd.prog X call lf 0 fg45 (loopN Tryd.f45 0) (f45_F0 F0 i0)=some (Ex.ret,(f45_S3 F0 i0 a c r10)) :=
  around_sound (ans:=[(1,Ans.b true),(5,Ans.v (AV.eaddr (st a::st c::r10))),(10,Ans.v (bo false))]) (by kernel_rfl) (ai h0 (ai h1 (ai h2 trivial)))
theorem f45_pltf (F0:List Feat)(X:Ext)(call:Caller)(lf i0:Nat)(a b:ByteArray)(r10:List AV)
 (h0:vexec Tryd.prog X call lf 0 fg45 (Code.loop (loopN Tryd.f45 0)) (f45_S0 F0)=some (Ex.ret,(f45_S3 F0 i0 a b r10))):vbody Tryd.prog X call lf fg45 Tryd.f45 (codeOf Tryd.f45) [featsV F0] [] 0=some (bo false,[]) :=
  along_sound (ans:=[(6,Ans.l Ex.ret (f45_S3 F0 i0 a b r10))]) (by kernel_rfl) (ai h0 trivial)
def f45_S4 (F0:List Feat)(i0:Nat):St :=
  stOf 41 [2,3,4,9,10,11,12,13,14,15,16,17,18,19,20,21,22,23,24,25,26,27,28,29,30,31,32,33,34,35,36,37] [(0,lro F0.length 2 (F0.flatMap featC)),(5,lro F0.length 2 (F0.flatMap featC)),(6,i6 (↑F0.length:Int)),(7,i6 (↑i0:Int)),(8,bo false)] []
theorem f45_r0_f (F0:List Feat)(X:Ext)(call:Caller)(lf i0:Nat)
 (h0:decide ((↑i0:Int)<(↑F0.length:Int))=false):vexec Tryd.prog X call lf 0 fg45 (loopN Tryd.f45 0) (f45_F0 F0 i0)=some (Ex.exit 0,(f45_S4 F0 i0)) :=
  around_sound (ans:=[(1,Ans.b false)]) (by kernel_rfl) (ai h0 trivial)
theorem f45_plft (F0:List Feat)(X:Ext)(call:Caller)(lf i0:Nat)
 (h0:vexec Tryd.prog X call lf 0 fg45 (Code.loop (loopN Tryd.f45 0)) (f45_S0 F0)=some (Ex.exit 0,(f45_S4 F0 i0)))
 (h1:decide ((↑F0.length:Int) ≤ 8)=true):vbody Tryd.prog X call lf fg45 Tryd.f45 (codeOf Tryd.f45) [featsV F0] [] 0=some (bo true,[]) :=
  along_sound (ans:=[(6,Ans.l (Ex.exit 0) (f45_S4 F0 i0)),(10,Ans.b true)]) (by kernel_rfl) (ai h0 (ai h1 trivial))
theorem f45_plff (F0:List Feat)(X:Ext)(call:Caller)(lf i0:Nat)
 (h0:vexec Tryd.prog X call lf 0 fg45 (Code.loop (loopN Tryd.f45 0)) (f45_S0 F0)=some (Ex.exit 0,(f45_S4 F0 i0)))
 (h1:decide ((↑F0.length:Int) ≤ 8)=false):vbody Tryd.prog X call lf fg45 Tryd.f45 (codeOf Tryd.f45) [featsV F0] [] 0=some (bo false,[]) :=
  along_sound (ans:=[(6,Ans.l (Ex.exit 0) (f45_S4 F0 i0)),(10,Ans.b false)]) (by kernel_rfl) (ai h0 (ai h1 trivial))
def f45_o0 (F0:List Feat)(i0:Nat)(a b:ByteArray)(b0 b1:Bool):Nat :=
  (match decide ((↑i0:Int)<(↑F0.length:Int)) with
  | true=>(match b0 with
    | true=>(match b1 with
      | true=>(match decide ((↑i0:Int)>0) with
        | true=>(match (!Op.bytesLess b.toList a.toList) with
          | true=>1
          | false=>0)
        | false=>0)
      | false=>2)
    | false=>3)
  | false=>4)
theorem f45_B0 (F0:List Feat)(X:Ext)(call:Caller)(lf i0:Nat)(a b:ByteArray)(r10:List AV)(c d:ByteArray)(r29:List AV)(b0 b1:Bool)
 (g0:decide ((↑i0:Int)<(↑F0.length:Int))=true→keep [] (indexAddrv Tryd.prog 31 [] (lro F0.length 2 (F0.flatMap featC)) (i6 (↑i0:Int)))=some (AV.eaddr (st a::st b::r10),[]))
 (g1:decide ((↑i0:Int)<(↑F0.length:Int))=true→callv X call true 75 [st a] [] 0=some (bo b0,[]))
 (g2:decide ((↑i0:Int)<(↑F0.length:Int))=true→b0=true→callv X call true 75 [st b] [] 0=some (bo b1,[]))
 (g3:decide ((↑i0:Int)<(↑F0.length:Int))=true→b0=true→b1=true→decide ((↑i0:Int)>0)=true→keep [] (indexAddrv Tryd.prog 31 [] (lro F0.length 2 (F0.flatMap featC)) (i6 (w6 ((↑i0:Int) - 1))))=some (AV.eaddr (st c::st d::r29),[]))
 (e0:decide ((↑i0:Int)<(↑F0.length:Int))=true→(↑(i0 + 1):Int)=w6 ((↑i0:Int) + 1)) :
    (f45_o0 F0 i0 a c b0 b1=0→∃ S1,vexec Tryd.prog X call lf 0 fg45 (loopN Tryd.f45 0) (f45_F0 F0 i0)=some (Ex.normal,S1)∧forget f45_D0 S1=(f45_F0 F0 (i0 + 1)))∧(f45_o0 F0 i0 a c b0 b1=1→vexec Tryd.prog X call lf 0 fg45 (loopN Tryd.f45 0) (f45_F0 F0 i0)=some (Ex.ret,(f45_S1 F0 i0 a b r10 c d r29)))∧(f45_o0 F0 i0 a c b0 b1=2→vexec Tryd.prog X call lf 0 fg45 (loopN Tryd.f45 0) (f45_F0 F0 i0)=some (Ex.ret,(f45_S2 F0 i0 a b r10)))∧(f45_o0 F0 i0 a c b0 b1=3→vexec Tryd.prog X call lf 0 fg45 (loopN Tryd.f45 0) (f45_F0 F0 i0)=some (Ex.ret,(f45_S3 F0 i0 a b r10)))∧(f45_o0 F0 i0 a c b0 b1=4→vexec Tryd.prog X call lf 0 fg45 (loopN Tryd.f45 0) (f45_F0 F0 i0)=some (Ex.exit 0,(f45_S4 F0 i0))):=by
  unfold f45_o0
  cases c0:decide ((↑i0:Int)<(↑F0.length:Int)) with
  | true =>
    cases c1:b0 with
    | true =>
      cases c2:b1 with
      | true =>
        cases c3:decide ((↑i0:Int)>0) with
        | true =>
          cases c4:(!Op.bytesLess c.toList a.toList) with
          | true =>
            exact ⟨fun h=>absurd (show (1:Nat)=0 from h) (by decide),fun _=>f45_r0_ttttt F0 X call lf i0 a b r10 c d r29 c0 (g0 c0) (by have:=(g1 c0); rw [c1] at this; exact this) (by have:=(g2 c0 c1); rw [c2] at this; exact this) c3 (g3 c0 c1 c2 c3) c4,fun h=>absurd (show (1:Nat)=2 from h) (by decide),fun h=>absurd (show (1:Nat)=3 from h) (by decide),fun h=>absurd (show (1:Nat)=4 from h) (by decide)⟩
          | false =>
            exact ⟨fun _=>f45_s0_ttttf F0 X call lf i0 a b r10 c d r29 c0 (g0 c0) (by have:=(g1 c0); rw [c1] at this; exact this) (by have:=(g2 c0 c1); rw [c2] at this; exact this) c3 (g3 c0 c1 c2 c3) c4 (e0 c0),fun h=>absurd (show (0:Nat)=1 from h) (by decide),fun h=>absurd (show (0:Nat)=2 from h) (by decide),fun h=>absurd (show (0:Nat)=3 from h) (by decide),fun h=>absurd (show (0:Nat)=4 from h) (by decide)⟩
        | false =>
          exact ⟨fun _=>f45_s0_tttf F0 X call lf i0 a b r10 c0 (g0 c0) (by have:=(g1 c0); rw [c1] at this; exact this) (by have:=(g2 c0 c1); rw [c2] at this; exact this) c3 (e0 c0),fun h=>absurd (show (0:Nat)=1 from h) (by decide),fun h=>absurd (show (0:Nat)=2 from h) (by decide),fun h=>absurd (show (0:Nat)=3 from h) (by decide),fun h=>absurd (show (0:Nat)=4 from h) (by decide)⟩
      | false =>
        exact ⟨fun h=>absurd (show (2:Nat)=0 from h) (by decide),fun h=>absurd (show (2:Nat)=1 from h) (by decide),fun _=>f45_r0_ttf F0 X call lf i0 a b r10 c0 (g0 c0) (by have:=(g1 c0); rw [c1] at this; exact this) (by have:=(g2 c0 c1); rw [c2] at this; exact this),fun h=>absurd (show (2:Nat)=3 from h) (by decide),fun h=>absurd (show (2:Nat)=4 from h) (by decide)⟩
    | false =>
      exact ⟨fun h=>absurd (show (3:Nat)=0 from h) (by decide),fun h=>absurd (show (3:Nat)=1 from h) (by decide),fun h=>absurd (show (3:Nat)=2 from h) (by decide),fun _=>f45_r0_tf F0 X call lf i0 a b r10 c0 (g0 c0) (by have:=(g1 c0); rw [c1] at this; exact this),fun h=>absurd (show (3:Nat)=4 from h) (by decide)⟩
  | false =>
    exact ⟨fun h=>absurd (show (4:Nat)=0 from h) (by decide),fun h=>absurd (show (4:Nat)=1 from h) (by decide),fun h=>absurd (show (4:Nat)=2 from h) (by decide),fun h=>absurd (show (4:Nat)=3 from h) (by decide),fun _=>f45_r0_f F0 X call lf i0 c0⟩
theorem f45_X0 (F0:List Feat)(X:Ext)(call:Caller)(lf i0:Nat)(a b:ByteArray)(r10:List AV)(c d:ByteArray)(r29:List AV)(b0 b1:Bool)
 (g0:decide ((↑i0:Int)<(↑F0.length:Int))=true→keep [] (indexAddrv Tryd.prog 31 [] (lro F0.length 2 (F0.flatMap featC)) (i6 (↑i0:Int)))=some (AV.eaddr (st a::st b::r10),[]))
 (g1:decide ((↑i0:Int)<(↑F0.length:Int))=true→callv X call true 75 [st a] [] 0=some (bo b0,[]))
 (g2:decide ((↑i0:Int)<(↑F0.length:Int))=true→b0=true→callv X call true 75 [st b] [] 0=some (bo b1,[]))
 (g3:decide ((↑i0:Int)<(↑F0.length:Int))=true→b0=true→b1=true→decide ((↑i0:Int)>0)=true→keep [] (indexAddrv Tryd.prog 31 [] (lro F0.length 2 (F0.flatMap featC)) (i6 (w6 ((↑i0:Int) - 1))))=some (AV.eaddr (st c::st d::r29),[])) :
    (f45_o0 F0 i0 a c b0 b1=1→vexec Tryd.prog X call lf 0 fg45 (loopN Tryd.f45 0) (f45_F0 F0 i0)=some (Ex.ret,(f45_S1 F0 i0 a b r10 c d r29)))∧(f45_o0 F0 i0 a c b0 b1=2→vexec Tryd.prog X call lf 0 fg45 (loopN Tryd.f45 0) (f45_F0 F0 i0)=some (Ex.ret,(f45_S2 F0 i0 a b r10)))∧(f45_o0 F0 i0 a c b0 b1=3→vexec Tryd.prog X call lf 0 fg45 (loopN Tryd.f45 0) (f45_F0 F0 i0)=some (Ex.ret,(f45_S3 F0 i0 a b r10)))∧(f45_o0 F0 i0 a c b0 b1=4→vexec Tryd.prog X call lf 0 fg45 (loopN Tryd.f45 0) (f45_F0 F0 i0)=some (Ex.exit 0,(f45_S4 F0 i0))):=by
  unfold f45_o0
  cases c0:decide ((↑i0:Int)<(↑F0.length:Int)) with
  | true =>
    cases c1:b0 with
    | true =>
      cases c2:b1 with
      | true =>
        cases c3:decide ((↑i0:Int)>0) with
        | true =>
          cases c4:(!Op.bytesLess c.toList a.toList) with
          | true =>
            exact ⟨fun _=>f45_r0_ttttt F0 X call lf i0 a b r10 c d r29 c0 (g0 c0) (by have:=(g1 c0); rw [c1] at this; exact this) (by have:=(g2 c0 c1); rw [c2] at this; exact this) c3 (g3 c0 c1 c2 c3) c4,fun h=>absurd (show (1:Nat)=2 from h) (by decide),fun h=>absurd (show (1:Nat)=3 from h) (by decide),fun h=>absurd (show (1:Nat)=4 from h) (by decide)⟩
          | false =>
            exact ⟨fun h=>absurd (show (0:Nat)=1 from h) (by decide),fun h=>absurd (show (0:Nat)=2 from h) (by decide),fun h=>absurd (show (0:Nat)=3 from h) (by decide),fun h=>absurd (show (0:Nat)=4 from h) (by decide)⟩
        | false =>
          exact ⟨fun h=>absurd (show (0:Nat)=1 from h) (by decide),fun h=>absurd (show (0:Nat)=2 from h) (by decide),fun h=>absurd (show (0:Nat)=3 from h) (by decide),fun h=>absurd (show (0:Nat)=4 from h) (by decide)⟩
      | false =>
        exact ⟨fun h=>absurd (show (2:Nat)=1 from h) (by decide),fun _=>f45_r0_ttf F0 X call lf i0 a b r10 c0 (g0 c0) (by have:=(g1 c0); rw [c1] at this; exact this) (by have:=(g2 c0 c1); rw [c2] at this; exact this),fun h=>absurd (show (2:Nat)=3 from h) (by decide),fun h=>absurd (show (2:Nat)=4 from h) (by decide)⟩
    | false =>
      exact ⟨fun h=>absurd (show (3:Nat)=1 from h) (by decide),fun h=>absurd (show (3:Nat)=2 from h) (by decide),fun _=>f45_r0_tf F0 X call lf i0 a b r10 c0 (g0 c0) (by have:=(g1 c0); rw [c1] at this; exact this),fun h=>absurd (show (3:Nat)=4 from h) (by decide)⟩
  | false =>
    exact ⟨fun h=>absurd (show (4:Nat)=1 from h) (by decide),fun h=>absurd (show (4:Nat)=2 from h) (by decide),fun h=>absurd (show (4:Nat)=3 from h) (by decide),fun _=>f45_r0_f F0 X call lf i0 c0⟩
theorem f45_M (F0:List Feat)(X:Ext)(call:Caller)(lf n:Nat)(a b:Nat→ByteArray)(r10:Nat→List AV)(c d:Nat→ByteArray)(r29:Nat→List AV)(b0 b1:Nat→Bool)
 (hn:n<lf)
 (g0:∀ i0,i0 ≤ n→decide ((↑i0:Int)<(↑F0.length:Int))=true→keep [] (indexAddrv Tryd.prog 31 [] (lro F0.length 2 (F0.flatMap featC)) (i6 (↑i0:Int)))=some (AV.eaddr (st (a i0)::st (b i0)::(r10 i0)),[]))
 (g1:∀ i0,i0 ≤ n→decide ((↑i0:Int)<(↑F0.length:Int))=true→callv X call true 75 [st (a i0)] [] 0=some (bo (b0 i0),[]))
 (g2:∀ i0,i0 ≤ n→decide ((↑i0:Int)<(↑F0.length:Int))=true→(b0 i0)=true→callv X call true 75 [st (b i0)] [] 0=some (bo (b1 i0),[]))
 (g3:∀ i0,i0 ≤ n→decide ((↑i0:Int)<(↑F0.length:Int))=true→(b0 i0)=true→(b1 i0)=true→decide ((↑i0:Int)>0)=true→keep [] (indexAddrv Tryd.prog 31 [] (lro F0.length 2 (F0.flatMap featC)) (i6 (w6 ((↑i0:Int) - 1))))=some (AV.eaddr (st (c i0)::st (d i0)::(r29 i0)),[]))
 (e0:∀ i0,i0<n→decide ((↑i0:Int)<(↑F0.length:Int))=true→(↑(i0 + 1):Int)=w6 ((↑i0:Int) + 1))
 (hz:∀ j,j<n→f45_o0 F0 j (a j) (c j) (b0 j) (b1 j)=0) :
    (f45_o0 F0 n (a n) (c n) (b0 n) (b1 n)=1→vbody Tryd.prog X call lf fg45 Tryd.f45 (codeOf Tryd.f45) [featsV F0] [] 0=some (bo false,[]))∧(f45_o0 F0 n (a n) (c n) (b0 n) (b1 n)=2→vbody Tryd.prog X call lf fg45 Tryd.f45 (codeOf Tryd.f45) [featsV F0] [] 0=some (bo false,[]))∧(f45_o0 F0 n (a n) (c n) (b0 n) (b1 n)=3→vbody Tryd.prog X call lf fg45 Tryd.f45 (codeOf Tryd.f45) [featsV F0] [] 0=some (bo false,[]))∧(f45_o0 F0 n (a n) (c n) (b0 n) (b1 n)=4→decide ((↑F0.length:Int) ≤ 8)=true→vbody Tryd.prog X call lf fg45 Tryd.f45 (codeOf Tryd.f45) [featsV F0] [] 0=some (bo true,[]))∧(f45_o0 F0 n (a n) (c n) (b0 n) (b1 n)=4→decide ((↑F0.length:Int) ≤ 8)=false→vbody Tryd.prog X call lf fg45 Tryd.f45 (codeOf Tryd.f45) [featsV F0] [] 0=some (bo false,[])):=by
  have key:∀ j,j<n→_:=fun j hj=>(f45_B0 F0 X call lf j (a j) (b j) (r10 j) (c j) (d j) (r29 j) (b0 j) (b1 j) (g0 j (Nat.le_of_lt hj)) (g1 j (Nat.le_of_lt hj)) (g2 j (Nat.le_of_lt hj)) (g3 j (Nat.le_of_lt hj)) (e0 j hj)).1 (hz j hj)
  have kn:=f45_X0 F0 X call lf n (a n) (b n) (r10 n) (c n) (d n) (r29 n) (b0 n) (b1 n) (g0 n (Nat.le_refl n)) (g1 n (Nat.le_refl n)) (g2 n (Nat.le_refl n)) (g3 n (Nat.le_refl n))
  exact ⟨fun hk=>f45_plttttt F0 X call lf n (a n) (b n) (r10 n) (c n) (d n) (r29 n) (f45_L0 F0 X call lf n _ _ hn key (kn.1 hk) (by simp)),
    fun hk=>f45_plttf F0 X call lf n (a n) (b n) (r10 n) (f45_L0 F0 X call lf n _ _ hn key (kn.2.1 hk) (by simp)),
    fun hk=>f45_pltf F0 X call lf n (a n) (b n) (r10 n) (f45_L0 F0 X call lf n _ _ hn key (kn.2.2.1 hk) (by simp)),
    fun hk q0=>f45_plft F0 X call lf n (f45_L0 F0 X call lf n _ _ hn key (kn.2.2.2 hk) (by simp)) q0,
    fun hk q0=>f45_plff F0 X call lf n (f45_L0 F0 X call lf n _ _ hn key (kn.2.2.2 hk) (by simp)) q0⟩
theorem f60_pt (F0 F1:List Feat)(X:Ext)(call:Caller)(lf:Nat)
 (h0:((↑F0.length:Int) != (↑F1.length:Int))=true):vbody Tryd.prog X call lf noFg Tryd.f60 (codeOf Tryd.f60) [featsV F0,featsV F1] [] 0=some (bo false,[]) :=
  along_sound (ans:=[(7,Ans.b true)]) (by kernel_rfl) (ai h0 trivial)
def f60_F0 (F0 F1:List Feat)(i0:Nat):St :=
  stOf 26 [4,11,12,13,14,15,16,17,18,19,20,21,22,23,24,25] [(0,lro F0.length 2 (F0.flatMap featC)),(1,lro F1.length 2 (F1.flatMap featC)),(5,i6 (↑i0:Int)),(6,lro F0.length 2 (F0.flatMap featC)),(7,i6 (↑F0.length:Int)),(8,lro F1.length 2 (F1.flatMap featC)),(9,i6 (↑F1.length:Int)),(10,bo false)] []
def f60_S0 (F0 F1:List Feat):St :=
  stOf 26 [] [(0,lro F0.length 2 (F0.flatMap featC)),(1,lro F1.length 2 (F1.flatMap featC)),(4,bo false),(5,i6 0),(6,lro F0.length 2 (F0.flatMap featC)),(7,i6 (↑F0.length:Int)),(8,lro F1.length 2 (F1.flatMap featC)),(9,i6 (↑F1.length:Int)),(10,bo false)] []
abbrev f60_D0:List Nat:=[16,15,4,25,24,23,22,21,20,19,18,17,14,13,12,11]
theorem f60_L0 (F0 F1:List Feat)(X:Ext)(call:Caller)(lf n:Nat)(x:Ex) (S' : St)
 (hn:n<lf)
 (hs:∀ j,j<n→∃ S1,vexec Tryd.prog X call lf 0 noFg (loopN Tryd.f60 0) (f60_F0 F0 F1 j)=some (Ex.normal,S1)∧forget f60_D0 S1=(f60_F0 F0 F1 (j + 1)))
 (he:vexec Tryd.prog X call lf 0 noFg (loopN Tryd.f60 0) (f60_F0 F0 F1 n)=some (x,S'))
 (hx:x ≠ Ex.normal):vexec Tryd.prog X call lf 0 noFg (Go.Code.loop (loopN Tryd.f60 0)) (f60_S0 F0 F1)=some (x,S') :=
  loop_runK (by kernel_rfl) (fun j=>(f60_F0 F0 F1 j)) n hn (by show forget f60_D0 (f60_S0 F0 F1)=(f60_F0 F0 F1 0); unfold f60_F0; show _=_; kernel_rfl) hs he hx
def f60_S1 (F0 F1:List Feat)(i0:Nat)(a b:ByteArray)(r19:List AV)(c d:ByteArray)(r23:List AV):St :=
  stOf 26 [15,16] [(0,lro F0.length 2 (F0.flatMap featC)),(1,lro F1.length 2 (F1.flatMap featC)),(4,bo false),(5,i6 (↑i0:Int)),(6,lro F0.length 2 (F0.flatMap featC)),(7,i6 (↑F0.length:Int)),(8,lro F1.length 2 (F1.flatMap featC)),(9,i6 (↑F1.length:Int)),(10,bo false),(11,i6 (↑i0:Int)),(12,lro F0.length 2 (F0.flatMap featC)),(13,i6 (↑F0.length:Int)),(14,bo true),(17,lro F0.length 2 (F0.flatMap featC)),(18,i6 (↑i0:Int)),(19,AV.eaddr (st a::st b::r19)),(20,AV.agg [st a,st b]),(21,lro F1.length 2 (F1.flatMap featC)),(22,i6 (↑i0:Int)),(23,AV.eaddr (st c::st d::r23)),(24,AV.agg [st c,st d]),(25,bo true)] []
theorem f60_r0_tt (F0 F1:List Feat)(X:Ext)(call:Caller)(lf i0:Nat)(a c:ByteArray)(r19:List AV)(d e:ByteArray)(r23:List AV)
 (h0:decide ((↑i0:Int)<(↑F0.length:Int))=true)
 (h1:keep [] (indexAddrv Tryd.prog 31 [] (lro F0.length 2 (F0.flatMap featC)) (i6 (↑i0:Int)))=some (AV.eaddr (st a::st c::r19),[]))
 (h2:keep [] (indexAddrv Tryd.prog 31 [] (lro F1.length 2 (F1.flatMap featC)) (i6 (↑i0:Int)))=some (AV.eaddr (st d::st e::r23),[]))
 (h3:(!(ByteArray.toList a == ByteArray.toList d && (ByteArray.toList c == ByteArray.toList e && true)))=true):vexec Tryd.prog X call lf 0 noFg (loopN Tryd.f60 0) (f60_F0 F0 F1 i0)=some (Ex.ret,(f60_S1 F0 F1 i0 a c r19 d e r23)) :=
  around_sound (ans:=[(4,Ans.b true),(9,Ans.v (AV.eaddr (st a::st c::r19))),(13,Ans.v (AV.eaddr (st d::st e::r23))),(15,Ans.b true)]) (by kernel_rfl) (ai h0 (ai h1 (ai h2 (ai h3 trivial))))
theorem f60_pfltt (F0 F1:List Feat)(X:Ext)(call:Caller)(lf i0:Nat)(a c:ByteArray)(r19:List AV)(d e:ByteArray)(r23:List AV)
 (h0:((↑F0.length:Int) != (↑F1.length:Int))=false)
 (h1:vexec Tryd.prog X call lf 0 noFg (Code.loop (loopN Tryd.f60 0)) (f60_S0 F0 F1)=some (Ex.ret,(f60_S1 F0 F1 i0 a c r19 d e r23))):vbody Tryd.prog X call lf noFg Tryd.f60 (codeOf Tryd.f60) [featsV F0,featsV F1] [] 0=some (bo false,[]) :=
  along_sound (ans:=[(7,Ans.b false),(11,Ans.l Ex.ret (f60_S1 F0 F1 i0 a c r19 d e r23))]) (by kernel_rfl) (ai h0 (ai h1 trivial))
theorem f60_s0_tf (F0 F1:List Feat)(X:Ext)(call:Caller)(lf i0:Nat)(a c:ByteArray)(r19:List AV)(d e:ByteArray)(r23:List AV)
 (h0:decide ((↑i0:Int)<(↑F0.length:Int))=true)
 (h1:keep [] (indexAddrv Tryd.prog 31 [] (lro F0.length 2 (F0.flatMap featC)) (i6 (↑i0:Int)))=some (AV.eaddr (st a::st c::r19),[]))
 (h2:keep [] (indexAddrv Tryd.prog 31 [] (lro F1.length 2 (F1.flatMap featC)) (i6 (↑i0:Int)))=some (AV.eaddr (st d::st e::r23),[]))
 (h3:(!(ByteArray.toList a == ByteArray.toList d && (ByteArray.toList c == ByteArray.toList e && true)))=false)
 (e0:(↑(i0 + 1):Int)=w6 ((↑i0:Int) + 1)):∃ S1,vexec Tryd.prog X call lf 0 noFg (loopN Tryd.f60 0) (f60_F0 F0 F1 i0)=some (Ex.normal,S1)∧forget f60_D0 S1=(f60_F0 F0 F1 (i0 + 1)) :=
  ⟨stOf 26 [4] [(0,lro F0.length 2 (F0.flatMap featC)),(1,lro F1.length 2 (F1.flatMap featC)),(5,i6 (w6 ((↑i0:Int) + 1))),(6,lro F0.length 2 (F0.flatMap featC)),(7,i6 (↑F0.length:Int)),(8,lro F1.length 2 (F1.flatMap featC)),(9,i6 (↑F1.length:Int)),(10,bo false),(11,i6 (↑i0:Int)),(12,lro F0.length 2 (F0.flatMap featC)),(13,i6 (↑F0.length:Int)),(14,bo true),(15,i6 (↑i0:Int)),(16,i6 (w6 ((↑i0:Int) + 1))),(17,lro F0.length 2 (F0.flatMap featC)),(18,i6 (↑i0:Int)),(19,AV.eaddr (st a::st c::r19)),(20,AV.agg [st a,st c]),(21,lro F1.length 2 (F1.flatMap featC)),(22,i6 (↑i0:Int)),(23,AV.eaddr (st d::st e::r23)),(24,AV.agg [st d,st e]),(25,bo false)] [],around_sound (ans:=[(4,Ans.b true),(9,Ans.v (AV.eaddr (st a::st c::r19))),(13,Ans.v (AV.eaddr (st d::st e::r23))),(15,Ans.b false)]) (by kernel_rfl) (ai h0 (ai h1 (ai h2 (ai h3 trivial)))),by unfold f60_F0; rw [e0]; show _=_; kernel_rfl⟩
def f60_S2 (F0 F1:List Feat)(i0:Nat):St :=
  stOf 26 [4,15,16,17,18,19,20,21,22,23,24,25] [(0,lro F0.length 2 (F0.flatMap featC)),(1,lro F1.length 2 (F1.flatMap featC)),(5,i6 (↑i0:Int)),(6,lro F0.length 2 (F0.flatMap featC)),(7,i6 (↑F0.length:Int)),(8,lro F1.length 2 (F1.flatMap featC)),(9,i6 (↑F1.length:Int)),(10,bo false),(11,i6 (↑i0:Int)),(12,lro F0.length 2 (F0.flatMap featC)),(13,i6 (↑F0.length:Int)),(14,bo false)] []
theorem f60_r0_f (F0 F1:List Feat)(X:Ext)(call:Caller)(lf i0:Nat)
 (h0:decide ((↑i0:Int)<(↑F0.length:Int))=false):vexec Tryd.prog X call lf 0 noFg (loopN Tryd.f60 0) (f60_F0 F0 F1 i0)=some (Ex.exit 0,(f60_S2 F0 F1 i0)) :=
  around_sound (ans:=[(4,Ans.b false)]) (by kernel_rfl) (ai h0 trivial)
theorem f60_pflf (F0 F1:List Feat)(X:Ext)(call:Caller)(lf i0:Nat)
 (h0:((↑F0.length:Int) != (↑F1.length:Int))=false)
 (h1:vexec Tryd.prog X call lf 0 noFg (Code.loop (loopN Tryd.f60 0)) (f60_S0 F0 F1)=some (Ex.exit 0,(f60_S2 F0 F1 i0))):vbody Tryd.prog X call lf noFg Tryd.f60 (codeOf Tryd.f60) [featsV F0,featsV F1] [] 0=some (bo true,[]) :=
  along_sound (ans:=[(7,Ans.b false),(11,Ans.l (Ex.exit 0) (f60_S2 F0 F1 i0))]) (by kernel_rfl) (ai h0 (ai h1 trivial))
def f60_o0 (F0:List Feat)(i0:Nat)(a b c d:ByteArray):Nat :=
  (match decide ((↑i0:Int)<(↑F0.length:Int)) with
  | true=>(match (!(ByteArray.toList a == ByteArray.toList c && (ByteArray.toList b == ByteArray.toList d && true))) with
    | true=>1
    | false=>0)
  | false=>2)
theorem f60_B0 (F0 F1:List Feat)(X:Ext)(call:Caller)(lf i0:Nat)(a b:ByteArray)(r19:List AV)(c d:ByteArray)(r23:List AV)
 (g0:decide ((↑i0:Int)<(↑F0.length:Int))=true→keep [] (indexAddrv Tryd.prog 31 [] (lro F0.length 2 (F0.flatMap featC)) (i6 (↑i0:Int)))=some (AV.eaddr (st a::st b::r19),[]))
 (g1:decide ((↑i0:Int)<(↑F0.length:Int))=true→keep [] (indexAddrv Tryd.prog 31 [] (lro F1.length 2 (F1.flatMap featC)) (i6 (↑i0:Int)))=some (AV.eaddr (st c::st d::r23),[]))
 (e0:decide ((↑i0:Int)<(↑F0.length:Int))=true→(↑(i0 + 1):Int)=w6 ((↑i0:Int) + 1)) :
    (f60_o0 F0 i0 a b c d=0→∃ S1,vexec Tryd.prog X call lf 0 noFg (loopN Tryd.f60 0) (f60_F0 F0 F1 i0)=some (Ex.normal,S1)∧forget f60_D0 S1=(f60_F0 F0 F1 (i0 + 1)))∧(f60_o0 F0 i0 a b c d=1→vexec Tryd.prog X call lf 0 noFg (loopN Tryd.f60 0) (f60_F0 F0 F1 i0)=some (Ex.ret,(f60_S1 F0 F1 i0 a b r19 c d r23)))∧(f60_o0 F0 i0 a b c d=2→vexec Tryd.prog X call lf 0 noFg (loopN Tryd.f60 0) (f60_F0 F0 F1 i0)=some (Ex.exit 0,(f60_S2 F0 F1 i0))):=by
  unfold f60_o0
  cases c0:decide ((↑i0:Int)<(↑F0.length:Int)) with
  | true =>
    cases c1:(!(ByteArray.toList a == ByteArray.toList c && (ByteArray.toList b == ByteArray.toList d && true))) with
    | true =>
      exact ⟨fun h=>absurd (show (1:Nat)=0 from h) (by decide),fun _=>f60_r0_tt F0 F1 X call lf i0 a b r19 c d r23 c0 (g0 c0) (g1 c0) c1,fun h=>absurd (show (1:Nat)=2 from h) (by decide)⟩
    | false =>
      exact ⟨fun _=>f60_s0_tf F0 F1 X call lf i0 a b r19 c d r23 c0 (g0 c0) (g1 c0) c1 (e0 c0),fun h=>absurd (show (0:Nat)=1 from h) (by decide),fun h=>absurd (show (0:Nat)=2 from h) (by decide)⟩
  | false =>
    exact ⟨fun h=>absurd (show (2:Nat)=0 from h) (by decide),fun h=>absurd (show (2:Nat)=1 from h) (by decide),fun _=>f60_r0_f F0 F1 X call lf i0 c0⟩
theorem f60_X0 (F0 F1:List Feat)(X:Ext)(call:Caller)(lf i0:Nat)(a b:ByteArray)(r19:List AV)(c d:ByteArray)(r23:List AV)
 (g0:decide ((↑i0:Int)<(↑F0.length:Int))=true→keep [] (indexAddrv Tryd.prog 31 [] (lro F0.length 2 (F0.flatMap featC)) (i6 (↑i0:Int)))=some (AV.eaddr (st a::st b::r19),[]))
 (g1:decide ((↑i0:Int)<(↑F0.length:Int))=true→keep [] (indexAddrv Tryd.prog 31 [] (lro F1.length 2 (F1.flatMap featC)) (i6 (↑i0:Int)))=some (AV.eaddr (st c::st d::r23),[])) :
    (f60_o0 F0 i0 a b c d=1→vexec Tryd.prog X call lf 0 noFg (loopN Tryd.f60 0) (f60_F0 F0 F1 i0)=some (Ex.ret,(f60_S1 F0 F1 i0 a b r19 c d r23)))∧(f60_o0 F0 i0 a b c d=2→vexec Tryd.prog X call lf 0 noFg (loopN Tryd.f60 0) (f60_F0 F0 F1 i0)=some (Ex.exit 0,(f60_S2 F0 F1 i0))):=by
  unfold f60_o0
  cases c0:decide ((↑i0:Int)<(↑F0.length:Int)) with
  | true =>
    cases c1:(!(ByteArray.toList a == ByteArray.toList c && (ByteArray.toList b == ByteArray.toList d && true))) with
    | true =>
      exact ⟨fun _=>f60_r0_tt F0 F1 X call lf i0 a b r19 c d r23 c0 (g0 c0) (g1 c0) c1,fun h=>absurd (show (1:Nat)=2 from h) (by decide)⟩
    | false =>
      exact ⟨fun h=>absurd (show (0:Nat)=1 from h) (by decide),fun h=>absurd (show (0:Nat)=2 from h) (by decide)⟩
  | false =>
    exact ⟨fun h=>absurd (show (2:Nat)=1 from h) (by decide),fun _=>f60_r0_f F0 F1 X call lf i0 c0⟩
theorem f60_M (F0 F1:List Feat)(X:Ext)(call:Caller)(lf n:Nat)(a b:Nat→ByteArray)(r19:Nat→List AV)(c d:Nat→ByteArray)(r23:Nat→List AV)
 (hn:n<lf)
 (g0:∀ i0,i0 ≤ n→decide ((↑i0:Int)<(↑F0.length:Int))=true→keep [] (indexAddrv Tryd.prog 31 [] (lro F0.length 2 (F0.flatMap featC)) (i6 (↑i0:Int)))=some (AV.eaddr (st (a i0)::st (b i0)::(r19 i0)),[]))
 (g1:∀ i0,i0 ≤ n→decide ((↑i0:Int)<(↑F0.length:Int))=true→keep [] (indexAddrv Tryd.prog 31 [] (lro F1.length 2 (F1.flatMap featC)) (i6 (↑i0:Int)))=some (AV.eaddr (st (c i0)::st (d i0)::(r23 i0)),[]))
 (e0:∀ i0,i0<n→decide ((↑i0:Int)<(↑F0.length:Int))=true→(↑(i0 + 1):Int)=w6 ((↑i0:Int) + 1))
 (hz:∀ j,j<n→f60_o0 F0 j (a j) (b j) (c j) (d j)=0) :
    (f60_o0 F0 n (a n) (b n) (c n) (d n)=1→((↑F0.length:Int) != (↑F1.length:Int))=false→vbody Tryd.prog X call lf noFg Tryd.f60 (codeOf Tryd.f60) [featsV F0,featsV F1] [] 0=some (bo false,[]))∧(f60_o0 F0 n (a n) (b n) (c n) (d n)=2→((↑F0.length:Int) != (↑F1.length:Int))=false→vbody Tryd.prog X call lf noFg Tryd.f60 (codeOf Tryd.f60) [featsV F0,featsV F1] [] 0=some (bo true,[])):=by
  have key:∀ j,j<n→_:=fun j hj=>(f60_B0 F0 F1 X call lf j (a j) (b j) (r19 j) (c j) (d j) (r23 j) (g0 j (Nat.le_of_lt hj)) (g1 j (Nat.le_of_lt hj)) (e0 j hj)).1 (hz j hj)
  have kn:=f60_X0 F0 F1 X call lf n (a n) (b n) (r19 n) (c n) (d n) (r23 n) (g0 n (Nat.le_refl n)) (g1 n (Nat.le_refl n))
  exact ⟨fun hk q0=>f60_pfltt F0 F1 X call lf n (a n) (b n) (r19 n) (c n) (d n) (r23 n) q0 (f60_L0 F0 F1 X call lf n _ _ hn key (kn.1 hk) (by simp)),
    fun hk q0=>f60_pflf F0 F1 X call lf n q0 (f60_L0 F0 F1 X call lf n _ _ hn key (kn.2 hk) (by simp))⟩
theorem f25_pttttt (x0 x1:Lexm)(X:Ext)(call:Caller)(lf:Nat)
 (h0:(ByteArray.toList (Lexm.id x0) == ByteArray.toList (Lexm.id x1))=true)
 (h1:(ByteArray.toList (Lexm.cat x0) == ByteArray.toList (Lexm.cat x1))=true)
 (h2:(ByteArray.toList (Lexm.stem x0) == ByteArray.toList (Lexm.stem x1))=true)
 (h3:(ByteArray.toList (Lexm.par x0) == ByteArray.toList (Lexm.par x1))=true)
 (h4:callv X call false 60 [lro (List.length (Lexm.feats x0)) 2 (List.flatMap featC (Lexm.feats x0)),lro (List.length (Lexm.feats x1)) 2 (List.flatMap featC (Lexm.feats x1))] [Ob.cells [st (Lexm.id x0),st (Lexm.cat x0),st (Lexm.stem x0),st (Lexm.par x0),lro (List.length (Lexm.feats x0)) 2 (List.flatMap featC (Lexm.feats x0))],Ob.cells [st (Lexm.id x1),st (Lexm.cat x1),st (Lexm.stem x1),st (Lexm.par x1),lro (List.length (Lexm.feats x1)) 2 (List.flatMap featC (Lexm.feats x1))]] 0=some (bo true,[Ob.cells [st (Lexm.id x0),st (Lexm.cat x0),st (Lexm.stem x0),st (Lexm.par x0),lro (List.length (Lexm.feats x0)) 2 (List.flatMap featC (Lexm.feats x0))],Ob.cells [st (Lexm.id x1),st (Lexm.cat x1),st (Lexm.stem x1),st (Lexm.par x1),lro (List.length (Lexm.feats x1)) 2 (List.flatMap featC (Lexm.feats x1))]])):vbody Tryd.prog X call lf noFg Tryd.f25 (codeOf Tryd.f25) [AV.agg (lexC x0),AV.agg (lexC x1)] [] 0=some (bo true,[Ob.cells [st (Lexm.id x0),st (Lexm.cat x0),st (Lexm.stem x0),st (Lexm.par x0),lro (List.length (Lexm.feats x0)) 2 (List.flatMap featC (Lexm.feats x0))],Ob.cells [st (Lexm.id x1),st (Lexm.cat x1),st (Lexm.stem x1),st (Lexm.par x1),lro (List.length (Lexm.feats x1)) 2 (List.flatMap featC (Lexm.feats x1))]]) :=
  along_sound (ans:=[(9,Ans.b true),(20,Ans.b true),(32,Ans.b true),(44,Ans.b true),(56,Ans.v (bo true))]) (by kernel_rfl) (ai h0 (ai h1 (ai h2 (ai h3 (ai h4 trivial)))))
theorem f25_pttttf (x0 x1:Lexm)(X:Ext)(call:Caller)(lf:Nat)
 (h0:(ByteArray.toList (Lexm.id x0) == ByteArray.toList (Lexm.id x1))=true)
 (h1:(ByteArray.toList (Lexm.cat x0) == ByteArray.toList (Lexm.cat x1))=true)
 (h2:(ByteArray.toList (Lexm.stem x0) == ByteArray.toList (Lexm.stem x1))=true)
 (h3:(ByteArray.toList (Lexm.par x0) == ByteArray.toList (Lexm.par x1))=true)
 (h4:callv X call false 60 [lro (List.length (Lexm.feats x0)) 2 (List.flatMap featC (Lexm.feats x0)),lro (List.length (Lexm.feats x1)) 2 (List.flatMap featC (Lexm.feats x1))] [Ob.cells [st (Lexm.id x0),st (Lexm.cat x0),st (Lexm.stem x0),st (Lexm.par x0),lro (List.length (Lexm.feats x0)) 2 (List.flatMap featC (Lexm.feats x0))],Ob.cells [st (Lexm.id x1),st (Lexm.cat x1),st (Lexm.stem x1),st (Lexm.par x1),lro (List.length (Lexm.feats x1)) 2 (List.flatMap featC (Lexm.feats x1))]] 0=some (bo false,[Ob.cells [st (Lexm.id x0),st (Lexm.cat x0),st (Lexm.stem x0),st (Lexm.par x0),lro (List.length (Lexm.feats x0)) 2 (List.flatMap featC (Lexm.feats x0))],Ob.cells [st (Lexm.id x1),st (Lexm.cat x1),st (Lexm.stem x1),st (Lexm.par x1),lro (List.length (Lexm.feats x1)) 2 (List.flatMap featC (Lexm.feats x1))]])):vbody Tryd.prog X call lf noFg Tryd.f25 (codeOf Tryd.f25) [AV.agg (lexC x0),AV.agg (lexC x1)] [] 0=some (bo false,[Ob.cells [st (Lexm.id x0),st (Lexm.cat x0),st (Lexm.stem x0),st (Lexm.par x0),lro (List.length (Lexm.feats x0)) 2 (List.flatMap featC (Lexm.feats x0))],Ob.cells [st (Lexm.id x1),st (Lexm.cat x1),st (Lexm.stem x1),st (Lexm.par x1),lro (List.length (Lexm.feats x1)) 2 (List.flatMap featC (Lexm.feats x1))]]) :=
  along_sound (ans:=[(9,Ans.b true),(20,Ans.b true),(32,Ans.b true),(44,Ans.b true),(56,Ans.v (bo false))]) (by kernel_rfl) (ai h0 (ai h1 (ai h2 (ai h3 (ai h4 trivial)))))
theorem f25_ptttf (x0 x1:Lexm)(X:Ext)(call:Caller)(lf:Nat)
 (h0:(ByteArray.toList (Lexm.id x0) == ByteArray.toList (Lexm.id x1))=true)
 (h1:(ByteArray.toList (Lexm.cat x0) == ByteArray.toList (Lexm.cat x1))=true)
 (h2:(ByteArray.toList (Lexm.stem x0) == ByteArray.toList (Lexm.stem x1))=true)
 (h3:(ByteArray.toList (Lexm.par x0) == ByteArray.toList (Lexm.par x1))=false):vbody Tryd.prog X call lf noFg Tryd.f25 (codeOf Tryd.f25) [AV.agg (lexC x0),AV.agg (lexC x1)] [] 0=some (bo false,[Ob.cells [st (Lexm.id x0),st (Lexm.cat x0),st (Lexm.stem x0),st (Lexm.par x0),lro (List.length (Lexm.feats x0)) 2 (List.flatMap featC (Lexm.feats x0))],Ob.cells [st (Lexm.id x1),st (Lexm.cat x1),st (Lexm.stem x1),st (Lexm.par x1),lro (List.length (Lexm.feats x1)) 2 (List.flatMap featC (Lexm.feats x1))]]) :=
  along_sound (ans:=[(9,Ans.b true),(20,Ans.b true),(32,Ans.b true),(44,Ans.b false)]) (by kernel_rfl) (ai h0 (ai h1 (ai h2 (ai h3 trivial))))
theorem f25_pttf (x0 x1:Lexm)(X:Ext)(call:Caller)(lf:Nat)
 (h0:(ByteArray.toList (Lexm.id x0) == ByteArray.toList (Lexm.id x1))=true)
 (h1:(ByteArray.toList (Lexm.cat x0) == ByteArray.toList (Lexm.cat x1))=true)
 (h2:(ByteArray.toList (Lexm.stem x0) == ByteArray.toList (Lexm.stem x1))=false):vbody Tryd.prog X call lf noFg Tryd.f25 (codeOf Tryd.f25) [AV.agg (lexC x0),AV.agg (lexC x1)] [] 0=some (bo false,[Ob.cells [st (Lexm.id x0),st (Lexm.cat x0),st (Lexm.stem x0),st (Lexm.par x0),lro (List.length (Lexm.feats x0)) 2 (List.flatMap featC (Lexm.feats x0))],Ob.cells [st (Lexm.id x1),st (Lexm.cat x1),st (Lexm.stem x1),st (Lexm.par x1),lro (List.length (Lexm.feats x1)) 2 (List.flatMap featC (Lexm.feats x1))]]) :=
  along_sound (ans:=[(9,Ans.b true),(20,Ans.b true),(32,Ans.b false)]) (by kernel_rfl) (ai h0 (ai h1 (ai h2 trivial)))
theorem f25_ptf (x0 x1:Lexm)(X:Ext)(call:Caller)(lf:Nat)
 (h0:(ByteArray.toList (Lexm.id x0) == ByteArray.toList (Lexm.id x1))=true)
 (h1:(ByteArray.toList (Lexm.cat x0) == ByteArray.toList (Lexm.cat x1))=false):vbody Tryd.prog X call lf noFg Tryd.f25 (codeOf Tryd.f25) [AV.agg (lexC x0),AV.agg (lexC x1)] [] 0=some (bo false,[Ob.cells [st (Lexm.id x0),st (Lexm.cat x0),st (Lexm.stem x0),st (Lexm.par x0),lro (List.length (Lexm.feats x0)) 2 (List.flatMap featC (Lexm.feats x0))],Ob.cells [st (Lexm.id x1),st (Lexm.cat x1),st (Lexm.stem x1),st (Lexm.par x1),lro (List.length (Lexm.feats x1)) 2 (List.flatMap featC (Lexm.feats x1))]]) :=
  along_sound (ans:=[(9,Ans.b true),(20,Ans.b false)]) (by kernel_rfl) (ai h0 (ai h1 trivial))
theorem f25_pf (x0 x1:Lexm)(X:Ext)(call:Caller)(lf:Nat)
 (h0:(ByteArray.toList (Lexm.id x0) == ByteArray.toList (Lexm.id x1))=false):vbody Tryd.prog X call lf noFg Tryd.f25 (codeOf Tryd.f25) [AV.agg (lexC x0),AV.agg (lexC x1)] [] 0=some (bo false,[Ob.cells [st (Lexm.id x0),st (Lexm.cat x0),st (Lexm.stem x0),st (Lexm.par x0),lro (List.length (Lexm.feats x0)) 2 (List.flatMap featC (Lexm.feats x0))],Ob.cells [st (Lexm.id x1),st (Lexm.cat x1),st (Lexm.stem x1),st (Lexm.par x1),lro (List.length (Lexm.feats x1)) 2 (List.flatMap featC (Lexm.feats x1))]]) :=
  along_sound (ans:=[(9,Ans.b false)]) (by kernel_rfl) (ai h0 trivial)
def f25_q0 (x0 x1:Lexm)(b0:Bool):Nat :=
  (match (ByteArray.toList (Lexm.id x0) == ByteArray.toList (Lexm.id x1)) with
  | true=>(match (ByteArray.toList (Lexm.cat x0) == ByteArray.toList (Lexm.cat x1)) with
    | true=>(match (ByteArray.toList (Lexm.stem x0) == ByteArray.toList (Lexm.stem x1)) with
      | true=>(match (ByteArray.toList (Lexm.par x0) == ByteArray.toList (Lexm.par x1)) with
        | true=>(match b0 with
          | true=>0
          | false=>1)
        | false=>1)
      | false=>1)
    | false=>1)
  | false=>1)
theorem f25_P0 (x0 x1:Lexm)(X:Ext)(call:Caller)(lf:Nat)(b0:Bool)
 (g0:(ByteArray.toList (Lexm.id x0) == ByteArray.toList (Lexm.id x1))=true→(ByteArray.toList (Lexm.cat x0) == ByteArray.toList (Lexm.cat x1))=true→(ByteArray.toList (Lexm.stem x0) == ByteArray.toList (Lexm.stem x1))=true→(ByteArray.toList (Lexm.par x0) == ByteArray.toList (Lexm.par x1))=true→callv X call false 60 [lro (List.length (Lexm.feats x0)) 2 (List.flatMap featC (Lexm.feats x0)),lro (List.length (Lexm.feats x1)) 2 (List.flatMap featC (Lexm.feats x1))] [Ob.cells [st (Lexm.id x0),st (Lexm.cat x0),st (Lexm.stem x0),st (Lexm.par x0),lro (List.length (Lexm.feats x0)) 2 (List.flatMap featC (Lexm.feats x0))],Ob.cells [st (Lexm.id x1),st (Lexm.cat x1),st (Lexm.stem x1),st (Lexm.par x1),lro (List.length (Lexm.feats x1)) 2 (List.flatMap featC (Lexm.feats x1))]] 0=some (bo b0,[Ob.cells [st (Lexm.id x0),st (Lexm.cat x0),st (Lexm.stem x0),st (Lexm.par x0),lro (List.length (Lexm.feats x0)) 2 (List.flatMap featC (Lexm.feats x0))],Ob.cells [st (Lexm.id x1),st (Lexm.cat x1),st (Lexm.stem x1),st (Lexm.par x1),lro (List.length (Lexm.feats x1)) 2 (List.flatMap featC (Lexm.feats x1))]])) :
    (f25_q0 x0 x1 b0=0→vbody Tryd.prog X call lf noFg Tryd.f25 (codeOf Tryd.f25) [AV.agg (lexC x0),AV.agg (lexC x1)] [] 0=some (bo true,[Ob.cells [st (Lexm.id x0),st (Lexm.cat x0),st (Lexm.stem x0),st (Lexm.par x0),lro (List.length (Lexm.feats x0)) 2 (List.flatMap featC (Lexm.feats x0))],Ob.cells [st (Lexm.id x1),st (Lexm.cat x1),st (Lexm.stem x1),st (Lexm.par x1),lro (List.length (Lexm.feats x1)) 2 (List.flatMap featC (Lexm.feats x1))]]))∧(f25_q0 x0 x1 b0=1→vbody Tryd.prog X call lf noFg Tryd.f25 (codeOf Tryd.f25) [AV.agg (lexC x0),AV.agg (lexC x1)] [] 0=some (bo false,[Ob.cells [st (Lexm.id x0),st (Lexm.cat x0),st (Lexm.stem x0),st (Lexm.par x0),lro (List.length (Lexm.feats x0)) 2 (List.flatMap featC (Lexm.feats x0))],Ob.cells [st (Lexm.id x1),st (Lexm.cat x1),st (Lexm.stem x1),st (Lexm.par x1),lro (List.length (Lexm.feats x1)) 2 (List.flatMap featC (Lexm.feats x1))]])):=by
  unfold f25_q0
  cases c0:(ByteArray.toList (Lexm.id x0) == ByteArray.toList (Lexm.id x1)) with
  | true =>
    cases c1:(ByteArray.toList (Lexm.cat x0) == ByteArray.toList (Lexm.cat x1)) with
    | true =>
      cases c2:(ByteArray.toList (Lexm.stem x0) == ByteArray.toList (Lexm.stem x1)) with
      | true =>
        cases c3:(ByteArray.toList (Lexm.par x0) == ByteArray.toList (Lexm.par x1)) with
        | true =>
          cases c4:b0 with
          | true =>
            exact ⟨fun _=>f25_pttttt x0 x1 X call lf c0 c1 c2 c3 (by have:=(g0 c0 c1 c2 c3); rw [c4] at this; exact this),fun h=>absurd (show (0:Nat)=1 from h) (by decide)⟩
          | false =>
            exact ⟨fun h=>absurd (show (1:Nat)=0 from h) (by decide),fun _=>f25_pttttf x0 x1 X call lf c0 c1 c2 c3 (by have:=(g0 c0 c1 c2 c3); rw [c4] at this; exact this)⟩
        | false =>
          exact ⟨fun h=>absurd (show (1:Nat)=0 from h) (by decide),fun _=>f25_ptttf x0 x1 X call lf c0 c1 c2 c3⟩
      | false =>
        exact ⟨fun h=>absurd (show (1:Nat)=0 from h) (by decide),fun _=>f25_pttf x0 x1 X call lf c0 c1 c2⟩
    | false =>
      exact ⟨fun h=>absurd (show (1:Nat)=0 from h) (by decide),fun _=>f25_ptf x0 x1 X call lf c0 c1⟩
  | false =>
    exact ⟨fun h=>absurd (show (1:Nat)=0 from h) (by decide),fun _=>f25_pf x0 x1 X call lf c0⟩
def fg15:Nat→List Nat
  | 5004=>[1]
  | _=>[]
def f15_F0 (L0:List Lexm)(i0:Nat):St :=
  stOf 46 [2,4,5,6,7,8,9,10,11,12,13,14,15,16,17,18,19,20,21,22,23,24,25,26,27,28,29,30,31,32,33,34,35,36,37,38,39,40,41,42] [(0,lro L0.length 5 (List.flatMap lexC L0)),(3,i6 (↑i0:Int))] []
def f15_S0 (L0:List Lexm):St :=
  stOf 46 [] [(0,lro L0.length 5 (List.flatMap lexC L0)),(2,bo false),(3,i6 0)] []
abbrev f15_D0:List Nat:=[10,9,2,42,41,40,39,38,37,36,35,34,33,32,31,30,29,28,27,26,25,24,23,22,21,20,19,18,17,16,15,4,14,13,12,11,8,7,6,5]
theorem f15_L0 (L0:List Lexm)(X:Ext)(call:Caller)(lf n:Nat)(x:Ex) (S' : St)
 (hn:n<lf)
 (hs:∀ j,j<n→∃ S1,vexec Tryd.prog X call lf 0 fg15 (loopN Tryd.f15 0) (f15_F0 L0 j)=some (Ex.normal,S1)∧forget f15_D0 S1=(f15_F0 L0 (j + 1)))
 (he:vexec Tryd.prog X call lf 0 fg15 (loopN Tryd.f15 0) (f15_F0 L0 n)=some (x,S'))
 (hx:x ≠ Ex.normal):vexec Tryd.prog X call lf 0 fg15 (Go.Code.loop (loopN Tryd.f15 0)) (f15_S0 L0)=some (x,S') :=
  loop_runK (by kernel_rfl) (fun j=>(f15_F0 L0 j)) n hn (by show forget f15_D0 (f15_S0 L0)=(f15_F0 L0 0); unfold f15_F0; show _=_; kernel_rfl) hs he hx
def f15_S1 (L0:List Lexm)(i0:Nat)(a b c d:ByteArray)(e:Nat)(g r13:List AV):St :=
  stOf 46 [9,10] [(0,lro L0.length 5 (List.flatMap lexC L0)),(2,bo false),(3,i6 (↑i0:Int)),(4,AV.eaddr [st a,st b,st c,st d,lro e 2 g]),(5,i6 (↑i0:Int)),(6,lro L0.length 5 (List.flatMap lexC L0)),(7,i6 (↑L0.length:Int)),(8,bo true),(11,lro L0.length 5 (List.flatMap lexC L0)),(12,i6 (↑i0:Int)),(13,AV.eaddr (st a::st b::st c::st d::lro e 2 g::r13)),(14,AV.agg [st a,st b,st c,st d,lro e 2 g]),(15,AV.eaddr [st a,st b,st c,st d,lro e 2 g]),(16,st a),(17,i6 (↑(ByteArray.size a):Int)),(18,bo true),(19,bo true),(24,bo true),(25,bo true),(30,bo true),(31,bo true),(36,bo true),(37,bo true),(42,bo true)] []
theorem f15_r0_tt (L0:List Lexm)(X:Ext)(call:Caller)(lf i0:Nat)(a c d e:ByteArray)(g:Nat)(h r13:List AV)
 (h0:decide ((↑i0:Int)<(↑L0.length:Int))=true)
 (h1:keep [] (indexAddrv Tryd.prog 22 [] (lro L0.length 5 (List.flatMap lexC L0)) (i6 (↑i0:Int)))=some (AV.eaddr (st a::st c::st d::st e::lro g 2 h::r13),[]))
 (h2:decide ((↑(ByteArray.size a):Int)>60)=true):vexec Tryd.prog X call lf 0 fg15 (loopN Tryd.f15 0) (f15_F0 L0 i0)=some (Ex.ret,(f15_S1 L0 i0 a c d e g h r13)) :=
  around_sound (ans:=[(4,Ans.b true),(9,Ans.v (AV.eaddr (st a::st c::st d::st e::lro g 2 h::r13))),(15,Ans.b true)]) (by kernel_rfl) (ai h0 (ai h1 (ai h2 trivial)))
theorem f15_pltt (L0:List Lexm)(X:Ext)(call:Caller)(lf i0:Nat)(a b c d:ByteArray)(e:Nat)(g r13:List AV)
 (h0:vexec Tryd.prog X call lf 0 fg15 (Code.loop (loopN Tryd.f15 0)) (f15_S0 L0)=some (Ex.ret,(f15_S1 L0 i0 a b c d e g r13))):vbody Tryd.prog X call lf fg15 Tryd.f15 (codeOf Tryd.f15) [lexsV L0] [] 0=some (bo false,[]) :=
  along_sound (ans:=[(4,Ans.l Ex.ret (f15_S1 L0 i0 a b c d e g r13))]) (by kernel_rfl) (ai h0 trivial)
def f15_S2 (L0:List Lexm)(i0:Nat)(a b c d:ByteArray)(e:Nat)(g r13:List AV):St :=
  stOf 46 [9,10] [(0,lro L0.length 5 (List.flatMap lexC L0)),(2,bo false),(3,i6 (↑i0:Int)),(4,AV.eaddr [st a,st b,st c,st d,lro e 2 g]),(5,i6 (↑i0:Int)),(6,lro L0.length 5 (List.flatMap lexC L0)),(7,i6 (↑L0.length:Int)),(8,bo true),(11,lro L0.length 5 (List.flatMap lexC L0)),(12,i6 (↑i0:Int)),(13,AV.eaddr (st a::st b::st c::st d::lro e 2 g::r13)),(14,AV.agg [st a,st b,st c,st d,lro e 2 g]),(15,AV.eaddr [st a,st b,st c,st d,lro e 2 g]),(16,st a),(17,i6 (↑(ByteArray.size a):Int)),(18,bo false),(19,bo false),(20,AV.eaddr [st b,st c,st d,lro e 2 g]),(21,st b),(22,i6 (↑(ByteArray.size b):Int)),(23,bo true),(24,bo true),(25,bo true),(30,bo true),(31,bo true),(36,bo true),(37,bo true),(42,bo true)] []
theorem f15_r0_tft (L0:List Lexm)(X:Ext)(call:Caller)(lf i0:Nat)(a c d e:ByteArray)(g:Nat)(h r13:List AV)
 (h0:decide ((↑i0:Int)<(↑L0.length:Int))=true)
 (h1:keep [] (indexAddrv Tryd.prog 22 [] (lro L0.length 5 (List.flatMap lexC L0)) (i6 (↑i0:Int)))=some (AV.eaddr (st a::st c::st d::st e::lro g 2 h::r13),[]))
 (h2:decide ((↑(ByteArray.size a):Int)>60)=false)
 (h3:decide ((↑(ByteArray.size c):Int)>60)=true):vexec Tryd.prog X call lf 0 fg15 (loopN Tryd.f15 0) (f15_F0 L0 i0)=some (Ex.ret,(f15_S2 L0 i0 a c d e g h r13)) :=
  around_sound (ans:=[(4,Ans.b true),(9,Ans.v (AV.eaddr (st a::st c::st d::st e::lro g 2 h::r13))),(15,Ans.b false),(24,Ans.b true)]) (by kernel_rfl) (ai h0 (ai h1 (ai h2 (ai h3 trivial))))
theorem f15_pltft (L0:List Lexm)(X:Ext)(call:Caller)(lf i0:Nat)(a b c d:ByteArray)(e:Nat)(g r13:List AV)
 (h0:vexec Tryd.prog X call lf 0 fg15 (Code.loop (loopN Tryd.f15 0)) (f15_S0 L0)=some (Ex.ret,(f15_S2 L0 i0 a b c d e g r13))):vbody Tryd.prog X call lf fg15 Tryd.f15 (codeOf Tryd.f15) [lexsV L0] [] 0=some (bo false,[]) :=
  along_sound (ans:=[(4,Ans.l Ex.ret (f15_S2 L0 i0 a b c d e g r13))]) (by kernel_rfl) (ai h0 trivial)
def f15_S3 (L0:List Lexm)(i0:Nat)(a b c d:ByteArray)(e:Nat)(g r13:List AV):St :=
  stOf 46 [9,10] [(0,lro L0.length 5 (List.flatMap lexC L0)),(2,bo false),(3,i6 (↑i0:Int)),(4,AV.eaddr [st a,st b,st c,st d,lro e 2 g]),(5,i6 (↑i0:Int)),(6,lro L0.length 5 (List.flatMap lexC L0)),(7,i6 (↑L0.length:Int)),(8,bo true),(11,lro L0.length 5 (List.flatMap lexC L0)),(12,i6 (↑i0:Int)),(13,AV.eaddr (st a::st b::st c::st d::lro e 2 g::r13)),(14,AV.agg [st a,st b,st c,st d,lro e 2 g]),(15,AV.eaddr [st a,st b,st c,st d,lro e 2 g]),(16,st a),(17,i6 (↑(ByteArray.size a):Int)),(18,bo false),(19,bo false),(20,AV.eaddr [st b,st c,st d,lro e 2 g]),(21,st b),(22,i6 (↑(ByteArray.size b):Int)),(23,bo false),(24,bo false),(25,bo false),(26,AV.eaddr [st c,st d,lro e 2 g]),(27,st c),(28,i6 (↑(ByteArray.size c):Int)),(29,bo true),(30,bo true),(31,bo true),(36,bo true),(37,bo true),(42,bo true)] []
theorem f15_r0_tfft (L0:List Lexm)(X:Ext)(call:Caller)(lf i0:Nat)(a c d e:ByteArray)(g:Nat)(h r13:List AV)
 (h0:decide ((↑i0:Int)<(↑L0.length:Int))=true)
 (h1:keep [] (indexAddrv Tryd.prog 22 [] (lro L0.length 5 (List.flatMap lexC L0)) (i6 (↑i0:Int)))=some (AV.eaddr (st a::st c::st d::st e::lro g 2 h::r13),[]))
 (h2:decide ((↑(ByteArray.size a):Int)>60)=false)
 (h3:decide ((↑(ByteArray.size c):Int)>60)=false)
 (h4:decide ((↑(ByteArray.size d):Int)>200)=true):vexec Tryd.prog X call lf 0 fg15 (loopN Tryd.f15 0) (f15_F0 L0 i0)=some (Ex.ret,(f15_S3 L0 i0 a c d e g h r13)) :=
  around_sound (ans:=[(4,Ans.b true),(9,Ans.v (AV.eaddr (st a::st c::st d::st e::lro g 2 h::r13))),(15,Ans.b false),(24,Ans.b false),(34,Ans.b true)]) (by kernel_rfl) (ai h0 (ai h1 (ai h2 (ai h3 (ai h4 trivial)))))
theorem f15_pltfft (L0:List Lexm)(X:Ext)(call:Caller)(lf i0:Nat)(a b c d:ByteArray)(e:Nat)(g r13:List AV)
 (h0:vexec Tryd.prog X call lf 0 fg15 (Code.loop (loopN Tryd.f15 0)) (f15_S0 L0)=some (Ex.ret,(f15_S3 L0 i0 a b c d e g r13))):vbody Tryd.prog X call lf fg15 Tryd.f15 (codeOf Tryd.f15) [lexsV L0] [] 0=some (bo false,[]) :=
  along_sound (ans:=[(4,Ans.l Ex.ret (f15_S3 L0 i0 a b c d e g r13))]) (by kernel_rfl) (ai h0 trivial)
def f15_S4 (L0:List Lexm)(i0:Nat)(a b c d:ByteArray)(e:Nat)(g r13:List AV):St :=
  stOf 46 [9,10] [(0,lro L0.length 5 (List.flatMap lexC L0)),(2,bo false),(3,i6 (↑i0:Int)),(4,AV.eaddr [st a,st b,st c,st d,lro e 2 g]),(5,i6 (↑i0:Int)),(6,lro L0.length 5 (List.flatMap lexC L0)),(7,i6 (↑L0.length:Int)),(8,bo true),(11,lro L0.length 5 (List.flatMap lexC L0)),(12,i6 (↑i0:Int)),(13,AV.eaddr (st a::st b::st c::st d::lro e 2 g::r13)),(14,AV.agg [st a,st b,st c,st d,lro e 2 g]),(15,AV.eaddr [st a,st b,st c,st d,lro e 2 g]),(16,st a),(17,i6 (↑(ByteArray.size a):Int)),(18,bo false),(19,bo false),(20,AV.eaddr [st b,st c,st d,lro e 2 g]),(21,st b),(22,i6 (↑(ByteArray.size b):Int)),(23,bo false),(24,bo false),(25,bo false),(26,AV.eaddr [st c,st d,lro e 2 g]),(27,st c),(28,i6 (↑(ByteArray.size c):Int)),(29,bo false),(30,bo false),(31,bo false),(32,AV.eaddr [st d,lro e 2 g]),(33,st d),(34,i6 (↑(ByteArray.size d):Int)),(35,bo true),(36,bo true),(37,bo true),(42,bo true)] []
theorem f15_r0_tffft (L0:List Lexm)(X:Ext)(call:Caller)(lf i0:Nat)(a c d e:ByteArray)(g:Nat)(h r13:List AV)
 (h0:decide ((↑i0:Int)<(↑L0.length:Int))=true)
 (h1:keep [] (indexAddrv Tryd.prog 22 [] (lro L0.length 5 (List.flatMap lexC L0)) (i6 (↑i0:Int)))=some (AV.eaddr (st a::st c::st d::st e::lro g 2 h::r13),[]))
 (h2:decide ((↑(ByteArray.size a):Int)>60)=false)
 (h3:decide ((↑(ByteArray.size c):Int)>60)=false)
 (h4:decide ((↑(ByteArray.size d):Int)>200)=false)
 (h5:decide ((↑(ByteArray.size e):Int)>60)=true):vexec Tryd.prog X call lf 0 fg15 (loopN Tryd.f15 0) (f15_F0 L0 i0)=some (Ex.ret,(f15_S4 L0 i0 a c d e g h r13)) :=
  around_sound (ans:=[(4,Ans.b true),(9,Ans.v (AV.eaddr (st a::st c::st d::st e::lro g 2 h::r13))),(15,Ans.b false),(24,Ans.b false),(34,Ans.b false),(44,Ans.b true)]) (by kernel_rfl) (ai h0 (ai h1 (ai h2 (ai h3 (ai h4 (ai h5 trivial))))))
theorem f15_pltffft (L0:List Lexm)(X:Ext)(call:Caller)(lf i0:Nat)(a b c d:ByteArray)(e:Nat)(g r13:List AV)
 (h0:vexec Tryd.prog X call lf 0 fg15 (Code.loop (loopN Tryd.f15 0)) (f15_S0 L0)=some (Ex.ret,(f15_S4 L0 i0 a b c d e g r13))):vbody Tryd.prog X call lf fg15 Tryd.f15 (codeOf Tryd.f15) [lexsV L0] [] 0=some (bo false,[]) :=
  along_sound (ans:=[(4,Ans.l Ex.ret (f15_S4 L0 i0 a b c d e g r13))]) (by kernel_rfl) (ai h0 trivial)
def f15_S5 (L0:List Lexm)(i0:Nat)(a b c d:ByteArray)(e:Nat)(g r13:List AV):St :=
  stOf 46 [9,10] [(0,lro L0.length 5 (List.flatMap lexC L0)),(2,bo false),(3,i6 (↑i0:Int)),(4,AV.eaddr [st a,st b,st c,st d,lro e 2 g]),(5,i6 (↑i0:Int)),(6,lro L0.length 5 (List.flatMap lexC L0)),(7,i6 (↑L0.length:Int)),(8,bo true),(11,lro L0.length 5 (List.flatMap lexC L0)),(12,i6 (↑i0:Int)),(13,AV.eaddr (st a::st b::st c::st d::lro e 2 g::r13)),(14,AV.agg [st a,st b,st c,st d,lro e 2 g]),(15,AV.eaddr [st a,st b,st c,st d,lro e 2 g]),(16,st a),(17,i6 (↑(ByteArray.size a):Int)),(18,bo false),(19,bo false),(20,AV.eaddr [st b,st c,st d,lro e 2 g]),(21,st b),(22,i6 (↑(ByteArray.size b):Int)),(23,bo false),(24,bo false),(25,bo false),(26,AV.eaddr [st c,st d,lro e 2 g]),(27,st c),(28,i6 (↑(ByteArray.size c):Int)),(29,bo false),(30,bo false),(31,bo false),(32,AV.eaddr [st d,lro e 2 g]),(33,st d),(34,i6 (↑(ByteArray.size d):Int)),(35,bo false),(36,bo false),(37,bo false),(38,AV.eaddr [lro e 2 g]),(39,lro e 2 g),(40,i6 (↑e:Int)),(41,bo true),(42,bo true)] []
theorem f15_r0_tfffft (L0:List Lexm)(X:Ext)(call:Caller)(lf i0:Nat)(a c d e:ByteArray)(g:Nat)(h r13:List AV)
 (h0:decide ((↑i0:Int)<(↑L0.length:Int))=true)
 (h1:keep [] (indexAddrv Tryd.prog 22 [] (lro L0.length 5 (List.flatMap lexC L0)) (i6 (↑i0:Int)))=some (AV.eaddr (st a::st c::st d::st e::lro g 2 h::r13),[]))
 (h2:decide ((↑(ByteArray.size a):Int)>60)=false)
 (h3:decide ((↑(ByteArray.size c):Int)>60)=false)
 (h4:decide ((↑(ByteArray.size d):Int)>200)=false)
 (h5:decide ((↑(ByteArray.size e):Int)>60)=false)
 (h6:decide ((↑g:Int)>20)=true):vexec Tryd.prog X call lf 0 fg15 (loopN Tryd.f15 0) (f15_F0 L0 i0)=some (Ex.ret,(f15_S5 L0 i0 a c d e g h r13)) :=
  around_sound (ans:=[(4,Ans.b true),(9,Ans.v (AV.eaddr (st a::st c::st d::st e::lro g 2 h::r13))),(15,Ans.b false),(24,Ans.b false),(34,Ans.b false),(44,Ans.b false),(54,Ans.b true)]) (by kernel_rfl) (ai h0 (ai h1 (ai h2 (ai h3 (ai h4 (ai h5 (ai h6 trivial)))))))
theorem f15_pltfffft (L0:List Lexm)(X:Ext)(call:Caller)(lf i0:Nat)(a b c d:ByteArray)(e:Nat)(g r13:List AV)
 (h0:vexec Tryd.prog X call lf 0 fg15 (Code.loop (loopN Tryd.f15 0)) (f15_S0 L0)=some (Ex.ret,(f15_S5 L0 i0 a b c d e g r13))):vbody Tryd.prog X call lf fg15 Tryd.f15 (codeOf Tryd.f15) [lexsV L0] [] 0=some (bo false,[]) :=
  along_sound (ans:=[(4,Ans.l Ex.ret (f15_S5 L0 i0 a b c d e g r13))]) (by kernel_rfl) (ai h0 trivial)
theorem f15_s0_tfffff (L0:List Lexm)(X:Ext)(call:Caller)(lf i0:Nat)(a c d e:ByteArray)(g:Nat)(h r13:List AV)
 (h0:decide ((↑i0:Int)<(↑L0.length:Int))=true)
 (h1:keep [] (indexAddrv Tryd.prog 22 [] (lro L0.length 5 (List.flatMap lexC L0)) (i6 (↑i0:Int)))=some (AV.eaddr (st a::st c::st d::st e::lro g 2 h::r13),[]))
 (h2:decide ((↑(ByteArray.size a):Int)>60)=false)
 (h3:decide ((↑(ByteArray.size c):Int)>60)=false)
 (h4:decide ((↑(ByteArray.size d):Int)>200)=false)
 (h5:decide ((↑(ByteArray.size e):Int)>60)=false)
 (h6:decide ((↑g:Int)>20)=false)
 (e0:(↑(i0 + 1):Int)=w6 ((↑i0:Int) + 1)):∃ S1,vexec Tryd.prog X call lf 0 fg15 (loopN Tryd.f15 0) (f15_F0 L0 i0)=some (Ex.normal,S1)∧forget f15_D0 S1=(f15_F0 L0 (i0 + 1)) :=
  ⟨stOf 46 [2] [(0,lro L0.length 5 (List.flatMap lexC L0)),(3,i6 (w6 ((↑i0:Int) + 1))),(4,AV.eaddr [st a,st c,st d,st e,lro g 2 h]),(5,i6 (↑i0:Int)),(6,lro L0.length 5 (List.flatMap lexC L0)),(7,i6 (↑L0.length:Int)),(8,bo true),(9,i6 (↑i0:Int)),(10,i6 (w6 ((↑i0:Int) + 1))),(11,lro L0.length 5 (List.flatMap lexC L0)),(12,i6 (↑i0:Int)),(13,AV.eaddr (st a::st c::st d::st e::lro g 2 h::r13)),(14,AV.agg [st a,st c,st d,st e,lro g 2 h]),(15,AV.eaddr [st a,st c,st d,st e,lro g 2 h]),(16,st a),(17,i6 (↑(ByteArray.size a):Int)),(18,bo false),(19,bo false),(20,AV.eaddr [st c,st d,st e,lro g 2 h]),(21,st c),(22,i6 (↑(ByteArray.size c):Int)),(23,bo false),(24,bo false),(25,bo false),(26,AV.eaddr [st d,st e,lro g 2 h]),(27,st d),(28,i6 (↑(ByteArray.size d):Int)),(29,bo false),(30,bo false),(31,bo false),(32,AV.eaddr [st e,lro g 2 h]),(33,st e),(34,i6 (↑(ByteArray.size e):Int)),(35,bo false),(36,bo false),(37,bo false),(38,AV.eaddr [lro g 2 h]),(39,lro g 2 h),(40,i6 (↑g:Int)),(41,bo false),(42,bo false)] [],around_sound (ans:=[(4,Ans.b true),(9,Ans.v (AV.eaddr (st a::st c::st d::st e::lro g 2 h::r13))),(15,Ans.b false),(24,Ans.b false),(34,Ans.b false),(44,Ans.b false),(54,Ans.b false)]) (by kernel_rfl) (ai h0 (ai h1 (ai h2 (ai h3 (ai h4 (ai h5 (ai h6 trivial))))))),by unfold f15_F0; rw [e0]; show _=_; kernel_rfl⟩
def f15_S6 (L0:List Lexm)(i0:Nat):St :=
  stOf 46 [2,4,9,10,11,12,13,14,15,16,17,18,19,20,21,22,23,24,25,26,27,28,29,30,31,32,33,34,35,36,37,38,39,40,41,42] [(0,lro L0.length 5 (List.flatMap lexC L0)),(3,i6 (↑i0:Int)),(5,i6 (↑i0:Int)),(6,lro L0.length 5 (List.flatMap lexC L0)),(7,i6 (↑L0.length:Int)),(8,bo false)] []
theorem f15_r0_f (L0:List Lexm)(X:Ext)(call:Caller)(lf i0:Nat)
 (h0:decide ((↑i0:Int)<(↑L0.length:Int))=false):vexec Tryd.prog X call lf 0 fg15 (loopN Tryd.f15 0) (f15_F0 L0 i0)=some (Ex.exit 0,(f15_S6 L0 i0)) :=
  around_sound (ans:=[(4,Ans.b false)]) (by kernel_rfl) (ai h0 trivial)
theorem f15_plft (L0:List Lexm)(X:Ext)(call:Caller)(lf i0:Nat)
 (h0:vexec Tryd.prog X call lf 0 fg15 (Code.loop (loopN Tryd.f15 0)) (f15_S0 L0)=some (Ex.exit 0,(f15_S6 L0 i0)))
 (h1:decide ((↑L0.length:Int) ≤ 300)=true):vbody Tryd.prog X call lf fg15 Tryd.f15 (codeOf Tryd.f15) [lexsV L0] [] 0=some (bo true,[]) :=
  along_sound (ans:=[(4,Ans.l (Ex.exit 0) (f15_S6 L0 i0)),(8,Ans.b true)]) (by kernel_rfl) (ai h0 (ai h1 trivial))
theorem f15_plff (L0:List Lexm)(X:Ext)(call:Caller)(lf i0:Nat)
 (h0:vexec Tryd.prog X call lf 0 fg15 (Code.loop (loopN Tryd.f15 0)) (f15_S0 L0)=some (Ex.exit 0,(f15_S6 L0 i0)))
 (h1:decide ((↑L0.length:Int) ≤ 300)=false):vbody Tryd.prog X call lf fg15 Tryd.f15 (codeOf Tryd.f15) [lexsV L0] [] 0=some (bo false,[]) :=
  along_sound (ans:=[(4,Ans.l (Ex.exit 0) (f15_S6 L0 i0)),(8,Ans.b false)]) (by kernel_rfl) (ai h0 (ai h1 trivial))
def f15_o0 (L0:List Lexm)(i0:Nat)(a b c d:ByteArray)(e:Nat):Nat :=
  (match decide ((↑i0:Int)<(↑L0.length:Int)) with
  | true=>(match decide ((↑(ByteArray.size a):Int)>60) with
    | true=>1
    | false=>(match decide ((↑(ByteArray.size b):Int)>60) with
      | true=>2
      | false=>(match decide ((↑(ByteArray.size c):Int)>200) with
        | true=>3
        | false=>(match decide ((↑(ByteArray.size d):Int)>60) with
          | true=>4
          | false=>(match decide ((↑e:Int)>20) with
            | true=>5
            | false=>0)))))
  | false=>6)
theorem f15_B0 (L0:List Lexm)(X:Ext)(call:Caller)(lf i0:Nat)(a b c d:ByteArray)(e:Nat)(g r13:List AV)
 (g0:decide ((↑i0:Int)<(↑L0.length:Int))=true→keep [] (indexAddrv Tryd.prog 22 [] (lro L0.length 5 (List.flatMap lexC L0)) (i6 (↑i0:Int)))=some (AV.eaddr (st a::st b::st c::st d::lro e 2 g::r13),[]))
 (e0:decide ((↑i0:Int)<(↑L0.length:Int))=true→(↑(i0 + 1):Int)=w6 ((↑i0:Int) + 1)) :
    (f15_o0 L0 i0 a b c d e=0→∃ S1,vexec Tryd.prog X call lf 0 fg15 (loopN Tryd.f15 0) (f15_F0 L0 i0)=some (Ex.normal,S1)∧forget f15_D0 S1=(f15_F0 L0 (i0 + 1)))∧(f15_o0 L0 i0 a b c d e=1→vexec Tryd.prog X call lf 0 fg15 (loopN Tryd.f15 0) (f15_F0 L0 i0)=some (Ex.ret,(f15_S1 L0 i0 a b c d e g r13)))∧(f15_o0 L0 i0 a b c d e=2→vexec Tryd.prog X call lf 0 fg15 (loopN Tryd.f15 0) (f15_F0 L0 i0)=some (Ex.ret,(f15_S2 L0 i0 a b c d e g r13)))∧(f15_o0 L0 i0 a b c d e=3→vexec Tryd.prog X call lf 0 fg15 (loopN Tryd.f15 0) (f15_F0 L0 i0)=some (Ex.ret,(f15_S3 L0 i0 a b c d e g r13)))∧(f15_o0 L0 i0 a b c d e=4→vexec Tryd.prog X call lf 0 fg15 (loopN Tryd.f15 0) (f15_F0 L0 i0)=some (Ex.ret,(f15_S4 L0 i0 a b c d e g r13)))∧(f15_o0 L0 i0 a b c d e=5→vexec Tryd.prog X call lf 0 fg15 (loopN Tryd.f15 0) (f15_F0 L0 i0)=some (Ex.ret,(f15_S5 L0 i0 a b c d e g r13)))∧(f15_o0 L0 i0 a b c d e=6→vexec Tryd.prog X call lf 0 fg15 (loopN Tryd.f15 0) (f15_F0 L0 i0)=some (Ex.exit 0,(f15_S6 L0 i0))):=by
  unfold f15_o0
  cases c0:decide ((↑i0:Int)<(↑L0.length:Int)) with
  | true =>
    cases c1:decide ((↑(ByteArray.size a):Int)>60) with
    | true =>
      exact ⟨fun h=>absurd (show (1:Nat)=0 from h) (by decide),fun _=>f15_r0_tt L0 X call lf i0 a b c d e g r13 c0 (g0 c0) c1,fun h=>absurd (show (1:Nat)=2 from h) (by decide),fun h=>absurd (show (1:Nat)=3 from h) (by decide),fun h=>absurd (show (1:Nat)=4 from h) (by decide),fun h=>absurd (show (1:Nat)=5 from h) (by decide),fun h=>absurd (show (1:Nat)=6 from h) (by decide)⟩
    | false =>
      cases c2:decide ((↑(ByteArray.size b):Int)>60) with
      | true =>
        exact ⟨fun h=>absurd (show (2:Nat)=0 from h) (by decide),fun h=>absurd (show (2:Nat)=1 from h) (by decide),fun _=>f15_r0_tft L0 X call lf i0 a b c d e g r13 c0 (g0 c0) c1 c2,fun h=>absurd (show (2:Nat)=3 from h) (by decide),fun h=>absurd (show (2:Nat)=4 from h) (by decide),fun h=>absurd (show (2:Nat)=5 from h) (by decide),fun h=>absurd (show (2:Nat)=6 from h) (by decide)⟩
      | false =>
        cases c3:decide ((↑(ByteArray.size c):Int)>200) with
        | true =>
          exact ⟨fun h=>absurd (show (3:Nat)=0 from h) (by decide),fun h=>absurd (show (3:Nat)=1 from h) (by decide),fun h=>absurd (show (3:Nat)=2 from h) (by decide),fun _=>f15_r0_tfft L0 X call lf i0 a b c d e g r13 c0 (g0 c0) c1 c2 c3,fun h=>absurd (show (3:Nat)=4 from h) (by decide),fun h=>absurd (show (3:Nat)=5 from h) (by decide),fun h=>absurd (show (3:Nat)=6 from h) (by decide)⟩
        | false =>
          cases c4:decide ((↑(ByteArray.size d):Int)>60) with
          | true =>
            exact ⟨fun h=>absurd (show (4:Nat)=0 from h) (by decide),fun h=>absurd (show (4:Nat)=1 from h) (by decide),fun h=>absurd (show (4:Nat)=2 from h) (by decide),fun h=>absurd (show (4:Nat)=3 from h) (by decide),fun _=>f15_r0_tffft L0 X call lf i0 a b c d e g r13 c0 (g0 c0) c1 c2 c3 c4,fun h=>absurd (show (4:Nat)=5 from h) (by decide),fun h=>absurd (show (4:Nat)=6 from h) (by decide)⟩
          | false =>
            cases c5:decide ((↑e:Int)>20) with
            | true =>
              exact ⟨fun h=>absurd (show (5:Nat)=0 from h) (by decide),fun h=>absurd (show (5:Nat)=1 from h) (by decide),fun h=>absurd (show (5:Nat)=2 from h) (by decide),fun h=>absurd (show (5:Nat)=3 from h) (by decide),fun h=>absurd (show (5:Nat)=4 from h) (by decide),fun _=>f15_r0_tfffft L0 X call lf i0 a b c d e g r13 c0 (g0 c0) c1 c2 c3 c4 c5,fun h=>absurd (show (5:Nat)=6 from h) (by decide)⟩
            | false =>
              exact ⟨fun _=>f15_s0_tfffff L0 X call lf i0 a b c d e g r13 c0 (g0 c0) c1 c2 c3 c4 c5 (e0 c0),fun h=>absurd (show (0:Nat)=1 from h) (by decide),fun h=>absurd (show (0:Nat)=2 from h) (by decide),fun h=>absurd (show (0:Nat)=3 from h) (by decide),fun h=>absurd (show (0:Nat)=4 from h) (by decide),fun h=>absurd (show (0:Nat)=5 from h) (by decide),fun h=>absurd (show (0:Nat)=6 from h) (by decide)⟩
  | false =>
    exact ⟨fun h=>absurd (show (6:Nat)=0 from h) (by decide),fun h=>absurd (show (6:Nat)=1 from h) (by decide),fun h=>absurd (show (6:Nat)=2 from h) (by decide),fun h=>absurd (show (6:Nat)=3 from h) (by decide),fun h=>absurd (show (6:Nat)=4 from h) (by decide),fun h=>absurd (show (6:Nat)=5 from h) (by decide),fun _=>f15_r0_f L0 X call lf i0 c0⟩
theorem f15_X0 (L0:List Lexm)(X:Ext)(call:Caller)(lf i0:Nat)(a b c d:ByteArray)(e:Nat)(g r13:List AV)
 (g0:decide ((↑i0:Int)<(↑L0.length:Int))=true→keep [] (indexAddrv Tryd.prog 22 [] (lro L0.length 5 (List.flatMap lexC L0)) (i6 (↑i0:Int)))=some (AV.eaddr (st a::st b::st c::st d::lro e 2 g::r13),[])) :
    (f15_o0 L0 i0 a b c d e=1→vexec Tryd.prog X call lf 0 fg15 (loopN Tryd.f15 0) (f15_F0 L0 i0)=some (Ex.ret,(f15_S1 L0 i0 a b c d e g r13)))∧(f15_o0 L0 i0 a b c d e=2→vexec Tryd.prog X call lf 0 fg15 (loopN Tryd.f15 0) (f15_F0 L0 i0)=some (Ex.ret,(f15_S2 L0 i0 a b c d e g r13)))∧(f15_o0 L0 i0 a b c d e=3→vexec Tryd.prog X call lf 0 fg15 (loopN Tryd.f15 0) (f15_F0 L0 i0)=some (Ex.ret,(f15_S3 L0 i0 a b c d e g r13)))∧(f15_o0 L0 i0 a b c d e=4→vexec Tryd.prog X call lf 0 fg15 (loopN Tryd.f15 0) (f15_F0 L0 i0)=some (Ex.ret,(f15_S4 L0 i0 a b c d e g r13)))∧(f15_o0 L0 i0 a b c d e=5→vexec Tryd.prog X call lf 0 fg15 (loopN Tryd.f15 0) (f15_F0 L0 i0)=some (Ex.ret,(f15_S5 L0 i0 a b c d e g r13)))∧(f15_o0 L0 i0 a b c d e=6→vexec Tryd.prog X call lf 0 fg15 (loopN Tryd.f15 0) (f15_F0 L0 i0)=some (Ex.exit 0,(f15_S6 L0 i0))):=by
  unfold f15_o0
  cases c0:decide ((↑i0:Int)<(↑L0.length:Int)) with
  | true =>
    cases c1:decide ((↑(ByteArray.size a):Int)>60) with
    | true =>
      exact ⟨fun _=>f15_r0_tt L0 X call lf i0 a b c d e g r13 c0 (g0 c0) c1,fun h=>absurd (show (1:Nat)=2 from h) (by decide),fun h=>absurd (show (1:Nat)=3 from h) (by decide),fun h=>absurd (show (1:Nat)=4 from h) (by decide),fun h=>absurd (show (1:Nat)=5 from h) (by decide),fun h=>absurd (show (1:Nat)=6 from h) (by decide)⟩
    | false =>
      cases c2:decide ((↑(ByteArray.size b):Int)>60) with
      | true =>
        exact ⟨fun h=>absurd (show (2:Nat)=1 from h) (by decide),fun _=>f15_r0_tft L0 X call lf i0 a b c d e g r13 c0 (g0 c0) c1 c2,fun h=>absurd (show (2:Nat)=3 from h) (by decide),fun h=>absurd (show (2:Nat)=4 from h) (by decide),fun h=>absurd (show (2:Nat)=5 from h) (by decide),fun h=>absurd (show (2:Nat)=6 from h) (by decide)⟩
      | false =>
        cases c3:decide ((↑(ByteArray.size c):Int)>200) with
        | true =>
          exact ⟨fun h=>absurd (show (3:Nat)=1 from h) (by decide),fun h=>absurd (show (3:Nat)=2 from h) (by decide),fun _=>f15_r0_tfft L0 X call lf i0 a b c d e g r13 c0 (g0 c0) c1 c2 c3,fun h=>absurd (show (3:Nat)=4 from h) (by decide),fun h=>absurd (show (3:Nat)=5 from h) (by decide),fun h=>absurd (show (3:Nat)=6 from h) (by decide)⟩
        | false =>
          cases c4:decide ((↑(ByteArray.size d):Int)>60) with
          | true =>
            exact ⟨fun h=>absurd (show (4:Nat)=1 from h) (by decide),fun h=>absurd (show (4:Nat)=2 from h) (by decide),fun h=>absurd (show (4:Nat)=3 from h) (by decide),fun _=>f15_r0_tffft L0 X call lf i0 a b c d e g r13 c0 (g0 c0) c1 c2 c3 c4,fun h=>absurd (show (4:Nat)=5 from h) (by decide),fun h=>absurd (show (4:Nat)=6 from h) (by decide)⟩
          | false =>
            cases c5:decide ((↑e:Int)>20) with
            | true =>
              exact ⟨fun h=>absurd (show (5:Nat)=1 from h) (by decide),fun h=>absurd (show (5:Nat)=2 from h) (by decide),fun h=>absurd (show (5:Nat)=3 from h) (by decide),fun h=>absurd (show (5:Nat)=4 from h) (by decide),fun _=>f15_r0_tfffft L0 X call lf i0 a b c d e g r13 c0 (g0 c0) c1 c2 c3 c4 c5,fun h=>absurd (show (5:Nat)=6 from h) (by decide)⟩
            | false =>
              exact ⟨fun h=>absurd (show (0:Nat)=1 from h) (by decide),fun h=>absurd (show (0:Nat)=2 from h) (by decide),fun h=>absurd (show (0:Nat)=3 from h) (by decide),fun h=>absurd (show (0:Nat)=4 from h) (by decide),fun h=>absurd (show (0:Nat)=5 from h) (by decide),fun h=>absurd (show (0:Nat)=6 from h) (by decide)⟩
  | false =>
    exact ⟨fun h=>absurd (show (6:Nat)=1 from h) (by decide),fun h=>absurd (show (6:Nat)=2 from h) (by decide),fun h=>absurd (show (6:Nat)=3 from h) (by decide),fun h=>absurd (show (6:Nat)=4 from h) (by decide),fun h=>absurd (show (6:Nat)=5 from h) (by decide),fun _=>f15_r0_f L0 X call lf i0 c0⟩
theorem f15_M (L0:List Lexm)(X:Ext)(call:Caller)(lf n:Nat)(a b c d:Nat→ByteArray)(e:Nat→Nat)(g r13:Nat→List AV)
 (hn:n<lf)
 (g0:∀ i0,i0 ≤ n→decide ((↑i0:Int)<(↑L0.length:Int))=true→keep [] (indexAddrv Tryd.prog 22 [] (lro L0.length 5 (List.flatMap lexC L0)) (i6 (↑i0:Int)))=some (AV.eaddr (st (a i0)::st (b i0)::st (c i0)::st (d i0)::lro (e i0) 2 (g i0)::(r13 i0)),[]))
 (e0:∀ i0,i0<n→decide ((↑i0:Int)<(↑L0.length:Int))=true→(↑(i0 + 1):Int)=w6 ((↑i0:Int) + 1))
 (hz:∀ j,j<n→f15_o0 L0 j (a j) (b j) (c j) (d j) (e j)=0) :
    (f15_o0 L0 n (a n) (b n) (c n) (d n) (e n)=1→vbody Tryd.prog X call lf fg15 Tryd.f15 (codeOf Tryd.f15) [lexsV L0] [] 0=some (bo false,[]))∧(f15_o0 L0 n (a n) (b n) (c n) (d n) (e n)=2→vbody Tryd.prog X call lf fg15 Tryd.f15 (codeOf Tryd.f15) [lexsV L0] [] 0=some (bo false,[]))∧(f15_o0 L0 n (a n) (b n) (c n) (d n) (e n)=3→vbody Tryd.prog X call lf fg15 Tryd.f15 (codeOf Tryd.f15) [lexsV L0] [] 0=some (bo false,[]))∧(f15_o0 L0 n (a n) (b n) (c n) (d n) (e n)=4→vbody Tryd.prog X call lf fg15 Tryd.f15 (codeOf Tryd.f15) [lexsV L0] [] 0=some (bo false,[]))∧(f15_o0 L0 n (a n) (b n) (c n) (d n) (e n)=5→vbody Tryd.prog X call lf fg15 Tryd.f15 (codeOf Tryd.f15) [lexsV L0] [] 0=some (bo false,[]))∧(f15_o0 L0 n (a n) (b n) (c n) (d n) (e n)=6→decide ((↑L0.length:Int) ≤ 300)=true→vbody Tryd.prog X call lf fg15 Tryd.f15 (codeOf Tryd.f15) [lexsV L0] [] 0=some (bo true,[]))∧(f15_o0 L0 n (a n) (b n) (c n) (d n) (e n)=6→decide ((↑L0.length:Int) ≤ 300)=false→vbody Tryd.prog X call lf fg15 Tryd.f15 (codeOf Tryd.f15) [lexsV L0] [] 0=some (bo false,[])):=by
  have key:∀ j,j<n→_:=fun j hj=>(f15_B0 L0 X call lf j (a j) (b j) (c j) (d j) (e j) (g j) (r13 j) (g0 j (Nat.le_of_lt hj)) (e0 j hj)).1 (hz j hj)
  have kn:=f15_X0 L0 X call lf n (a n) (b n) (c n) (d n) (e n) (g n) (r13 n) (g0 n (Nat.le_refl n))
  exact ⟨fun hk=>f15_pltt L0 X call lf n (a n) (b n) (c n) (d n) (e n) (g n) (r13 n) (f15_L0 L0 X call lf n _ _ hn key (kn.1 hk) (by simp)),
    fun hk=>f15_pltft L0 X call lf n (a n) (b n) (c n) (d n) (e n) (g n) (r13 n) (f15_L0 L0 X call lf n _ _ hn key (kn.2.1 hk) (by simp)),
    fun hk=>f15_pltfft L0 X call lf n (a n) (b n) (c n) (d n) (e n) (g n) (r13 n) (f15_L0 L0 X call lf n _ _ hn key (kn.2.2.1 hk) (by simp)),
    fun hk=>f15_pltffft L0 X call lf n (a n) (b n) (c n) (d n) (e n) (g n) (r13 n) (f15_L0 L0 X call lf n _ _ hn key (kn.2.2.2.1 hk) (by simp)),
    fun hk=>f15_pltfffft L0 X call lf n (a n) (b n) (c n) (d n) (e n) (g n) (r13 n) (f15_L0 L0 X call lf n _ _ hn key (kn.2.2.2.2.1 hk) (by simp)),
    fun hk q0=>f15_plft L0 X call lf n (f15_L0 L0 X call lf n _ _ hn key (kn.2.2.2.2.2 hk) (by simp)) q0,
    fun hk q0=>f15_plff L0 X call lf n (f15_L0 L0 X call lf n _ _ hn key (kn.2.2.2.2.2 hk) (by simp)) q0⟩
theorem f47_pt (s0:ByteArray)(X:Ext)(call:Caller)(lf:Nat)
 (h0:(ByteArray.toList s0 == ByteArray.toList (ByteArray.mk #[]))=true):vbody Tryd.prog X call lf noFg Tryd.f47 (codeOf Tryd.f47) [st s0] [] 0=some (st (ByteArray.mk #[45]),[]) :=
  along_sound (ans:=[(4,Ans.b true)]) (by kernel_rfl) (ai h0 trivial)
theorem f47_pf (s0:ByteArray)(X:Ext)(call:Caller)(lf:Nat)
 (h0:(ByteArray.toList s0 == ByteArray.toList (ByteArray.mk #[]))=false):vbody Tryd.prog X call lf noFg Tryd.f47 (codeOf Tryd.f47) [st s0] [] 0=some (st s0,[]) :=
  along_sound (ans:=[(4,Ans.b false)]) (by kernel_rfl) (ai h0 trivial)
def f47_q0 (s0:ByteArray):Nat :=
  (match (ByteArray.toList s0 == ByteArray.toList (ByteArray.mk #[])) with
  | true=>0
  | false=>1)
theorem f47_P0 (s0:ByteArray)(X:Ext)(call:Caller)(lf:Nat) :
    (f47_q0 s0=0→vbody Tryd.prog X call lf noFg Tryd.f47 (codeOf Tryd.f47) [st s0] [] 0=some (st (ByteArray.mk #[45]),[]))∧(f47_q0 s0=1→vbody Tryd.prog X call lf noFg Tryd.f47 (codeOf Tryd.f47) [st s0] [] 0=some (st s0,[])):=by
  unfold f47_q0
  cases c0:(ByteArray.toList s0 == ByteArray.toList (ByteArray.mk #[])) with
  | true =>
    exact ⟨fun _=>f47_pt s0 X call lf c0,fun h=>absurd (show (0:Nat)=1 from h) (by decide)⟩
  | false =>
    exact ⟨fun h=>absurd (show (1:Nat)=0 from h) (by decide),fun _=>f47_pf s0 X call lf c0⟩
theorem f56_pt (s0:ByteArray)(X:Ext)(call:Caller)(lf:Nat)
 (h0:(ByteArray.toList s0 == ByteArray.toList (ByteArray.mk #[45]))=true):vbody Tryd.prog X call lf noFg Tryd.f56 (codeOf Tryd.f56) [st s0] [] 0=some (st (ByteArray.mk #[]),[]) :=
  along_sound (ans:=[(4,Ans.b true)]) (by kernel_rfl) (ai h0 trivial)
theorem f56_pf (s0:ByteArray)(X:Ext)(call:Caller)(lf:Nat)
 (h0:(ByteArray.toList s0 == ByteArray.toList (ByteArray.mk #[45]))=false):vbody Tryd.prog X call lf noFg Tryd.f56 (codeOf Tryd.f56) [st s0] [] 0=some (st s0,[]) :=
  along_sound (ans:=[(4,Ans.b false)]) (by kernel_rfl) (ai h0 trivial)
def f56_q0 (s0:ByteArray):Nat :=
  (match (ByteArray.toList s0 == ByteArray.toList (ByteArray.mk #[45])) with
  | true=>0
  | false=>1)
theorem f56_P0 (s0:ByteArray)(X:Ext)(call:Caller)(lf:Nat) :
    (f56_q0 s0=0→vbody Tryd.prog X call lf noFg Tryd.f56 (codeOf Tryd.f56) [st s0] [] 0=some (st (ByteArray.mk #[]),[]))∧(f56_q0 s0=1→vbody Tryd.prog X call lf noFg Tryd.f56 (codeOf Tryd.f56) [st s0] [] 0=some (st s0,[])):=by
  unfold f56_q0
  cases c0:(ByteArray.toList s0 == ByteArray.toList (ByteArray.mk #[45])) with
  | true =>
    exact ⟨fun _=>f56_pt s0 X call lf c0,fun h=>absurd (show (0:Nat)=1 from h) (by decide)⟩
  | false =>
    exact ⟨fun h=>absurd (show (1:Nat)=0 from h) (by decide),fun _=>f56_pf s0 X call lf c0⟩
def f29_F0 (L0:List Lexm)(s1:ByteArray)(i0:Nat):St :=
  stOf 20 [4,6,7,8,9,10,11,12,13,14,15,16,17,18,19] [(0,lro L0.length 5 (List.flatMap lexC L0)),(1,st s1),(5,i6 (↑i0:Int))] []
def f29_S0 (L0:List Lexm)(s1:ByteArray):St :=
  stOf 20 [] [(0,lro L0.length 5 (List.flatMap lexC L0)),(1,st s1),(4,i6 0),(5,i6 0)] []
abbrev f29_D0:List Nat:=[11,10,4,19,18,17,16,15,14,13,12,9,8,7,6]
theorem f29_L0 (L0:List Lexm)(s1:ByteArray)(X:Ext)(call:Caller)(lf n:Nat)(x:Ex) (S' : St)
 (hn:n<lf)
 (hs:∀ j,j<n→∃ S1,vexec Tryd.prog X call lf 0 noFg (loopN Tryd.f29 0) (f29_F0 L0 s1 j)=some (Ex.normal,S1)∧forget f29_D0 S1=(f29_F0 L0 s1 (j + 1)))
 (he:vexec Tryd.prog X call lf 0 noFg (loopN Tryd.f29 0) (f29_F0 L0 s1 n)=some (x,S'))
 (hx:x ≠ Ex.normal):vexec Tryd.prog X call lf 0 noFg (Go.Code.loop (loopN Tryd.f29 0)) (f29_S0 L0 s1)=some (x,S') :=
  loop_runK (by kernel_rfl) (fun j=>(f29_F0 L0 s1 j)) n hn (by show forget f29_D0 (f29_S0 L0 s1)=(f29_F0 L0 s1 0); unfold f29_F0; show _=_; kernel_rfl) hs he hx
def f29_S1 (L0:List Lexm)(s1:ByteArray)(i0:Nat)(a b c d:ByteArray)(e:Nat)(g r14:List AV):St :=
  stOf 20 [10,11] [(0,lro L0.length 5 (List.flatMap lexC L0)),(1,st s1),(4,i6 (↑i0:Int)),(5,i6 (↑i0:Int)),(6,i6 (↑i0:Int)),(7,lro L0.length 5 (List.flatMap lexC L0)),(8,i6 (↑L0.length:Int)),(9,bo true),(12,lro L0.length 5 (List.flatMap lexC L0)),(13,i6 (↑i0:Int)),(14,AV.eaddr (st a::st b::st c::st d::lro e 2 g::r14)),(15,AV.eaddr (st a::st b::st c::st d::lro e 2 g::r14)),(16,st a),(17,st s1),(18,bo true),(19,i6 (↑i0:Int))] []
theorem f29_r0_tt (L0:List Lexm)(s1:ByteArray)(X:Ext)(call:Caller)(lf i0:Nat)(a c d e:ByteArray)(g:Nat)(h r14:List AV)
 (h0:decide ((↑i0:Int)<(↑L0.length:Int))=true)
 (h1:keep [] (indexAddrv Tryd.prog 22 [] (lro L0.length 5 (List.flatMap lexC L0)) (i6 (↑i0:Int)))=some (AV.eaddr (st a::st c::st d::st e::lro g 2 h::r14),[]))
 (h2:(ByteArray.toList a == ByteArray.toList s1)=true):vexec Tryd.prog X call lf 0 noFg (loopN Tryd.f29 0) (f29_F0 L0 s1 i0)=some (Ex.ret,(f29_S1 L0 s1 i0 a c d e g h r14)) :=
  around_sound (ans:=[(4,Ans.b true),(9,Ans.v (AV.eaddr (st a::st c::st d::st e::lro g 2 h::r14))),(13,Ans.b true)]) (by kernel_rfl) (ai h0 (ai h1 (ai h2 trivial)))
theorem f29_pltt (L0:List Lexm)(s1:ByteArray)(X:Ext)(call:Caller)(lf i0:Nat)(a b c d:ByteArray)(e:Nat)(g r14:List AV)
 (h0:vexec Tryd.prog X call lf 0 noFg (Code.loop (loopN Tryd.f29 0)) (f29_S0 L0 s1)=some (Ex.ret,(f29_S1 L0 s1 i0 a b c d e g r14))):vbody Tryd.prog X call lf noFg Tryd.f29 (codeOf Tryd.f29) [lexsV L0,st s1] [] 0=some (i6 (↑i0:Int),[]) :=
  along_sound (ans:=[(4,Ans.l Ex.ret (f29_S1 L0 s1 i0 a b c d e g r14))]) (by kernel_rfl) (ai h0 trivial)
theorem f29_s0_tf (L0:List Lexm)(s1:ByteArray)(X:Ext)(call:Caller)(lf i0:Nat)(a c d e:ByteArray)(g:Nat)(h r14:List AV)
 (h0:decide ((↑i0:Int)<(↑L0.length:Int))=true)
 (h1:keep [] (indexAddrv Tryd.prog 22 [] (lro L0.length 5 (List.flatMap lexC L0)) (i6 (↑i0:Int)))=some (AV.eaddr (st a::st c::st d::st e::lro g 2 h::r14),[]))
 (h2:(ByteArray.toList a == ByteArray.toList s1)=false)
 (e0:(↑(i0 + 1):Int)=w6 ((↑i0:Int) + 1)):∃ S1,vexec Tryd.prog X call lf 0 noFg (loopN Tryd.f29 0) (f29_F0 L0 s1 i0)=some (Ex.normal,S1)∧forget f29_D0 S1=(f29_F0 L0 s1 (i0 + 1)) :=
  ⟨stOf 20 [4,19] [(0,lro L0.length 5 (List.flatMap lexC L0)),(1,st s1),(5,i6 (w6 ((↑i0:Int) + 1))),(6,i6 (↑i0:Int)),(7,lro L0.length 5 (List.flatMap lexC L0)),(8,i6 (↑L0.length:Int)),(9,bo true),(10,i6 (↑i0:Int)),(11,i6 (w6 ((↑i0:Int) + 1))),(12,lro L0.length 5 (List.flatMap lexC L0)),(13,i6 (↑i0:Int)),(14,AV.eaddr (st a::st c::st d::st e::lro g 2 h::r14)),(15,AV.eaddr (st a::st c::st d::st e::lro g 2 h::r14)),(16,st a),(17,st s1),(18,bo false)] [],around_sound (ans:=[(4,Ans.b true),(9,Ans.v (AV.eaddr (st a::st c::st d::st e::lro g 2 h::r14))),(13,Ans.b false)]) (by kernel_rfl) (ai h0 (ai h1 (ai h2 trivial))),by unfold f29_F0; rw [e0]; show _=_; kernel_rfl⟩
def f29_S2 (L0:List Lexm)(s1:ByteArray)(i0:Nat):St :=
  stOf 20 [4,10,11,12,13,14,15,16,17,18,19] [(0,lro L0.length 5 (List.flatMap lexC L0)),(1,st s1),(5,i6 (↑i0:Int)),(6,i6 (↑i0:Int)),(7,lro L0.length 5 (List.flatMap lexC L0)),(8,i6 (↑L0.length:Int)),(9,bo false)] []
theorem f29_r0_f (L0:List Lexm)(s1:ByteArray)(X:Ext)(call:Caller)(lf i0:Nat)
 (h0:decide ((↑i0:Int)<(↑L0.length:Int))=false):vexec Tryd.prog X call lf 0 noFg (loopN Tryd.f29 0) (f29_F0 L0 s1 i0)=some (Ex.exit 0,(f29_S2 L0 s1 i0)) :=
  around_sound (ans:=[(4,Ans.b false)]) (by kernel_rfl) (ai h0 trivial)
theorem f29_plf (L0:List Lexm)(s1:ByteArray)(X:Ext)(call:Caller)(lf i0:Nat)
 (h0:vexec Tryd.prog X call lf 0 noFg (Code.loop (loopN Tryd.f29 0)) (f29_S0 L0 s1)=some (Ex.exit 0,(f29_S2 L0 s1 i0))):vbody Tryd.prog X call lf noFg Tryd.f29 (codeOf Tryd.f29) [lexsV L0,st s1] [] 0=some (i6 (-1),[]) :=
  along_sound (ans:=[(4,Ans.l (Ex.exit 0) (f29_S2 L0 s1 i0))]) (by kernel_rfl) (ai h0 trivial)
def f29_o0 (L0:List Lexm)(s1:ByteArray)(i0:Nat)(a:ByteArray):Nat :=
  (match decide ((↑i0:Int)<(↑L0.length:Int)) with
  | true=>(match (ByteArray.toList a == ByteArray.toList s1) with
    | true=>1
    | false=>0)
  | false=>2)
theorem f29_B0 (L0:List Lexm)(s1:ByteArray)(X:Ext)(call:Caller)(lf i0:Nat)(a b c d:ByteArray)(e:Nat)(g r14:List AV)
 (g0:decide ((↑i0:Int)<(↑L0.length:Int))=true→keep [] (indexAddrv Tryd.prog 22 [] (lro L0.length 5 (List.flatMap lexC L0)) (i6 (↑i0:Int)))=some (AV.eaddr (st a::st b::st c::st d::lro e 2 g::r14),[]))
 (e0:decide ((↑i0:Int)<(↑L0.length:Int))=true→(↑(i0 + 1):Int)=w6 ((↑i0:Int) + 1)) :
    (f29_o0 L0 s1 i0 a=0→∃ S1,vexec Tryd.prog X call lf 0 noFg (loopN Tryd.f29 0) (f29_F0 L0 s1 i0)=some (Ex.normal,S1)∧forget f29_D0 S1=(f29_F0 L0 s1 (i0 + 1)))∧(f29_o0 L0 s1 i0 a=1→vexec Tryd.prog X call lf 0 noFg (loopN Tryd.f29 0) (f29_F0 L0 s1 i0)=some (Ex.ret,(f29_S1 L0 s1 i0 a b c d e g r14)))∧(f29_o0 L0 s1 i0 a=2→vexec Tryd.prog X call lf 0 noFg (loopN Tryd.f29 0) (f29_F0 L0 s1 i0)=some (Ex.exit 0,(f29_S2 L0 s1 i0))):=by
  unfold f29_o0
  cases c0:decide ((↑i0:Int)<(↑L0.length:Int)) with
  | true =>
    cases c1:(ByteArray.toList a == ByteArray.toList s1) with
    | true =>
      exact ⟨fun h=>absurd (show (1:Nat)=0 from h) (by decide),fun _=>f29_r0_tt L0 s1 X call lf i0 a b c d e g r14 c0 (g0 c0) c1,fun h=>absurd (show (1:Nat)=2 from h) (by decide)⟩
    | false =>
      exact ⟨fun _=>f29_s0_tf L0 s1 X call lf i0 a b c d e g r14 c0 (g0 c0) c1 (e0 c0),fun h=>absurd (show (0:Nat)=1 from h) (by decide),fun h=>absurd (show (0:Nat)=2 from h) (by decide)⟩
  | false =>
    exact ⟨fun h=>absurd (show (2:Nat)=0 from h) (by decide),fun h=>absurd (show (2:Nat)=1 from h) (by decide),fun _=>f29_r0_f L0 s1 X call lf i0 c0⟩
theorem f29_X0 (L0:List Lexm)(s1:ByteArray)(X:Ext)(call:Caller)(lf i0:Nat)(a b c d:ByteArray)(e:Nat)(g r14:List AV)
 (g0:decide ((↑i0:Int)<(↑L0.length:Int))=true→keep [] (indexAddrv Tryd.prog 22 [] (lro L0.length 5 (List.flatMap lexC L0)) (i6 (↑i0:Int)))=some (AV.eaddr (st a::st b::st c::st d::lro e 2 g::r14),[])) :
    (f29_o0 L0 s1 i0 a=1→vexec Tryd.prog X call lf 0 noFg (loopN Tryd.f29 0) (f29_F0 L0 s1 i0)=some (Ex.ret,(f29_S1 L0 s1 i0 a b c d e g r14)))∧(f29_o0 L0 s1 i0 a=2→vexec Tryd.prog X call lf 0 noFg (loopN Tryd.f29 0) (f29_F0 L0 s1 i0)=some (Ex.exit 0,(f29_S2 L0 s1 i0))):=by
  unfold f29_o0
  cases c0:decide ((↑i0:Int)<(↑L0.length:Int)) with
  | true =>
    cases c1:(ByteArray.toList a == ByteArray.toList s1) with
    | true =>
      exact ⟨fun _=>f29_r0_tt L0 s1 X call lf i0 a b c d e g r14 c0 (g0 c0) c1,fun h=>absurd (show (1:Nat)=2 from h) (by decide)⟩
    | false =>
      exact ⟨fun h=>absurd (show (0:Nat)=1 from h) (by decide),fun h=>absurd (show (0:Nat)=2 from h) (by decide)⟩
  | false =>
    exact ⟨fun h=>absurd (show (2:Nat)=1 from h) (by decide),fun _=>f29_r0_f L0 s1 X call lf i0 c0⟩
theorem f29_M (L0:List Lexm)(s1:ByteArray)(X:Ext)(call:Caller)(lf n:Nat)(a b c d:Nat→ByteArray)(e:Nat→Nat)(g r14:Nat→List AV)
 (hn:n<lf)
 (g0:∀ i0,i0 ≤ n→decide ((↑i0:Int)<(↑L0.length:Int))=true→keep [] (indexAddrv Tryd.prog 22 [] (lro L0.length 5 (List.flatMap lexC L0)) (i6 (↑i0:Int)))=some (AV.eaddr (st (a i0)::st (b i0)::st (c i0)::st (d i0)::lro (e i0) 2 (g i0)::(r14 i0)),[]))
 (e0:∀ i0,i0<n→decide ((↑i0:Int)<(↑L0.length:Int))=true→(↑(i0 + 1):Int)=w6 ((↑i0:Int) + 1))
 (hz:∀ j,j<n→f29_o0 L0 s1 j (a j)=0) :
    (f29_o0 L0 s1 n (a n)=1→vbody Tryd.prog X call lf noFg Tryd.f29 (codeOf Tryd.f29) [lexsV L0,st s1] [] 0=some (i6 (↑n:Int),[]))∧(f29_o0 L0 s1 n (a n)=2→vbody Tryd.prog X call lf noFg Tryd.f29 (codeOf Tryd.f29) [lexsV L0,st s1] [] 0=some (i6 (-1),[])):=by
  have key:∀ j,j<n→_:=fun j hj=>(f29_B0 L0 s1 X call lf j (a j) (b j) (c j) (d j) (e j) (g j) (r14 j) (g0 j (Nat.le_of_lt hj)) (e0 j hj)).1 (hz j hj)
  have kn:=f29_X0 L0 s1 X call lf n (a n) (b n) (c n) (d n) (e n) (g n) (r14 n) (g0 n (Nat.le_refl n))
  exact ⟨fun hk=>f29_pltt L0 s1 X call lf n (a n) (b n) (c n) (d n) (e n) (g n) (r14 n) (f29_L0 L0 s1 X call lf n _ _ hn key (kn.1 hk) (by simp)),
    fun hk=>f29_plf L0 s1 X call lf n (f29_L0 L0 s1 X call lf n _ _ hn key (kn.2 hk) (by simp))⟩
theorem f28_p (L0:List Lexm)(s1:ByteArray)(X:Ext)(call:Caller)(lf:Nat)(n7:Int)
 (h0:callv X call false 62 [lro L0.length 5 (List.flatMap lexC L0),AV.clo 63 [AV.ref 0 0]] [Ob.cells [st s1]] 0=some (i6 n7,[Ob.cells [st s1]])):vbody Tryd.prog X call lf noFg Tryd.f28 (codeOf Tryd.f28) [lexsV L0,st s1] [] 0=some (i6 n7,[Ob.cells [st s1]]) :=
  along_sound (ans:=[(6,Ans.v (i6 n7))]) (by kernel_rfl) (ai h0 trivial)
theorem f26_pt (L0:List Lexm)(s1:ByteArray)(X:Ext)(call:Caller)(lf:Nat)(n9:Int)(a d e g:ByteArray)(h:Nat)(j r14:List AV)(k p q r:ByteArray)(t:Nat)(u:List AV)
 (h0:callv X call false 28 [lro L0.length 5 (List.flatMap lexC L0),st s1] [Ob.cells [st (ByteArray.mk #[]),st (ByteArray.mk #[]),st (ByteArray.mk #[]),st (ByteArray.mk #[]),AV.list LK.nil 0 0 []]] 0=some (i6 n9,[Ob.cells [st (ByteArray.mk #[]),st (ByteArray.mk #[]),st (ByteArray.mk #[]),st (ByteArray.mk #[]),AV.list LK.nil 0 0 []]]))
 (h1:decide (n9 ≥ 0)=true)
 (h2:keep [Ob.cells [st (ByteArray.mk #[]),st (ByteArray.mk #[]),st (ByteArray.mk #[]),st (ByteArray.mk #[]),AV.list LK.nil 0 0 []]] (indexAddrv Tryd.prog 22 [Ob.cells [st (ByteArray.mk #[]),st (ByteArray.mk #[]),st (ByteArray.mk #[]),st (ByteArray.mk #[]),AV.list LK.nil 0 0 []]] (lro L0.length 5 (List.flatMap lexC L0)) (i6 n9))=some (AV.eaddr (st a::st d::st e::st g::lro h 2 j::r14),[Ob.cells [st (ByteArray.mk #[]),st (ByteArray.mk #[]),st (ByteArray.mk #[]),st (ByteArray.mk #[]),AV.list LK.nil 0 0 []]]))
 (h3:callv X call false 61 [AV.agg [st a,st d,st e,st g,lro h 2 j]] [Ob.cells [st (ByteArray.mk #[]),st (ByteArray.mk #[]),st (ByteArray.mk #[]),st (ByteArray.mk #[]),AV.list LK.nil 0 0 []]] 0=some (AV.agg [st k,st p,st q,st r,lro t 2 u],[Ob.cells [st (ByteArray.mk #[]),st (ByteArray.mk #[]),st (ByteArray.mk #[]),st (ByteArray.mk #[]),AV.list LK.nil 0 0 []]]))
 (h4:vend1 [] 0 [Ob.cells [st k,st p,st q,st r,lro t 2 u]] [AV.agg [st k,st p,st q,st r,lro t 2 u],bo true]=some (AV.tup [AV.agg [st k,st p,st q,st r,lro t 2 u],bo true],[Ob.cells [st k,st p,st q,st r,lro t 2 u]])):vbody Tryd.prog X call lf noFg Tryd.f26 (codeOf Tryd.f26) [lexsV L0,st s1] [] 0=some (AV.tup [AV.agg [st k,st p,st q,st r,lro t 2 u],bo true],[Ob.cells [st k,st p,st q,st r,lro t 2 u]]) :=
  along_sound (ans:=[(6,Ans.v (i6 n9)),(10,Ans.b true),(15,Ans.v (AV.eaddr (st a::st d::st e::st g::lro h 2 j::r14))),(17,Ans.v (AV.agg [st k,st p,st q,st r,lro t 2 u])),(20,Ans.c (AV.tup [AV.agg [st k,st p,st q,st r,lro t 2 u],bo true]) [Ob.cells [st k,st p,st q,st r,lro t 2 u]])]) (by kernel_rfl) (ai h0 (ai h1 (ai h2 (ai h3 (ai h4 trivial)))))
theorem f26_pf (L0:List Lexm)(s1:ByteArray)(X:Ext)(call:Caller)(lf:Nat)(n9:Int)
 (h0:callv X call false 28 [lro L0.length 5 (List.flatMap lexC L0),st s1] [Ob.cells [st (ByteArray.mk #[]),st (ByteArray.mk #[]),st (ByteArray.mk #[]),st (ByteArray.mk #[]),AV.list LK.nil 0 0 []]] 0=some (i6 n9,[Ob.cells [st (ByteArray.mk #[]),st (ByteArray.mk #[]),st (ByteArray.mk #[]),st (ByteArray.mk #[]),AV.list LK.nil 0 0 []]]))
 (h1:decide (n9 ≥ 0)=false):vbody Tryd.prog X call lf noFg Tryd.f26 (codeOf Tryd.f26) [lexsV L0,st s1] [] 0=some (AV.tup [AV.agg [st (ByteArray.mk #[]),st (ByteArray.mk #[]),st (ByteArray.mk #[]),st (ByteArray.mk #[]),AV.list LK.nil 0 0 []],bo false],[Ob.cells [st (ByteArray.mk #[]),st (ByteArray.mk #[]),st (ByteArray.mk #[]),st (ByteArray.mk #[]),AV.list LK.nil 0 0 []]]) :=
  along_sound (ans:=[(6,Ans.v (i6 n9)),(10,Ans.b false)]) (by kernel_rfl) (ai h0 (ai h1 trivial))
theorem f61_p (x0:Lexm)(X:Ext)(call:Caller)(lf m5:Nat)(c5:List AV)(m6:Nat)(c6:List AV)
 (h0:callv X call false 88 [lro (List.length (Lexm.feats x0)) 2 (List.flatMap featC (Lexm.feats x0))] [Ob.cells [st (Lexm.id x0),st (Lexm.cat x0),st (Lexm.stem x0),st (Lexm.par x0),lro (List.length (Lexm.feats x0)) 2 (List.flatMap featC (Lexm.feats x0))],Ob.cells [st (ByteArray.mk #[]),st (ByteArray.mk #[]),st (ByteArray.mk #[]),st (ByteArray.mk #[]),AV.list LK.nil 0 0 []]] 0=some (lro m5 2 c5,[Ob.cells [st (Lexm.id x0),st (Lexm.cat x0),st (Lexm.stem x0),st (Lexm.par x0),lro (List.length (Lexm.feats x0)) 2 (List.flatMap featC (Lexm.feats x0))],Ob.cells [st (ByteArray.mk #[]),st (ByteArray.mk #[]),st (ByteArray.mk #[]),st (ByteArray.mk #[]),AV.list LK.nil 0 0 []]]))
 (h1:callv X call false 87 [lro m5 2 c5] [Ob.cells [st (Lexm.id x0),st (Lexm.cat x0),st (Lexm.stem x0),st (Lexm.par x0),lro (List.length (Lexm.feats x0)) 2 (List.flatMap featC (Lexm.feats x0))],Ob.cells [st (ByteArray.mk #[]),st (ByteArray.mk #[]),st (ByteArray.mk #[]),st (ByteArray.mk #[]),AV.list LK.nil 0 0 []]] 0=some (lro m6 2 c6,[Ob.cells [st (Lexm.id x0),st (Lexm.cat x0),st (Lexm.stem x0),st (Lexm.par x0),lro (List.length (Lexm.feats x0)) 2 (List.flatMap featC (Lexm.feats x0))],Ob.cells [st (ByteArray.mk #[]),st (ByteArray.mk #[]),st (ByteArray.mk #[]),st (ByteArray.mk #[]),AV.list LK.nil 0 0 []]]))
 (h2:vend1 [] 0 [Ob.cells [st (Lexm.id x0),st (Lexm.cat x0),st (Lexm.stem x0),st (Lexm.par x0),lro m6 2 c6],Ob.cells [st (Lexm.id x0),st (Lexm.cat x0),st (Lexm.stem x0),st (Lexm.par x0),lro m6 2 c6]] [AV.agg [st (Lexm.id x0),st (Lexm.cat x0),st (Lexm.stem x0),st (Lexm.par x0),lro m6 2 c6]]=some (AV.agg [st (Lexm.id x0),st (Lexm.cat x0),st (Lexm.stem x0),st (Lexm.par x0),lro m6 2 c6],[Ob.cells [st (Lexm.id x0),st (Lexm.cat x0),st (Lexm.stem x0),st (Lexm.par x0),lro m6 2 c6],Ob.cells [st (Lexm.id x0),st (Lexm.cat x0),st (Lexm.stem x0),st (Lexm.par x0),lro m6 2 c6]])):vbody Tryd.prog X call lf noFg Tryd.f61 (codeOf Tryd.f61) [AV.agg (lexC x0)] [] 0=some (AV.agg [st (Lexm.id x0),st (Lexm.cat x0),st (Lexm.stem x0),st (Lexm.par x0),lro m6 2 c6],[Ob.cells [st (Lexm.id x0),st (Lexm.cat x0),st (Lexm.stem x0),st (Lexm.par x0),lro m6 2 c6],Ob.cells [st (Lexm.id x0),st (Lexm.cat x0),st (Lexm.stem x0),st (Lexm.par x0),lro m6 2 c6]]) :=
  along_sound (ans:=[(6,Ans.v (lro m5 2 c5)),(7,Ans.v (lro m6 2 c6)),(13,Ans.c (AV.agg [st (Lexm.id x0),st (Lexm.cat x0),st (Lexm.stem x0),st (Lexm.par x0),lro m6 2 c6]) [Ob.cells [st (Lexm.id x0),st (Lexm.cat x0),st (Lexm.stem x0),st (Lexm.par x0),lro m6 2 c6],Ob.cells [st (Lexm.id x0),st (Lexm.cat x0),st (Lexm.stem x0),st (Lexm.par x0),lro m6 2 c6]])]) (by kernel_rfl) (ai h0 (ai h1 (ai h2 trivial)))
def f89_F0 (F0:List Feat)(f1:Feat)(i0:Nat):St :=
  stOf 19 [4,5,9,10,11,12,13,14,15,16,17,18] [(0,lro F0.length 2 (F0.flatMap featC)),(1,AV.agg [st (Feat.name f1),st (Feat.value f1)]),(3,AV.ref 0 0),(6,lro F0.length 2 (F0.flatMap featC)),(7,i6 (↑F0.length:Int)),(8,i6 (↑i0:Int))] [Ob.cells [st (Feat.name f1),st (Feat.value f1)]]
def f89_S0 (F0:List Feat)(f1:Feat):St :=
  stOf 19 [] [(0,lro F0.length 2 (F0.flatMap featC)),(1,AV.agg [st (Feat.name f1),st (Feat.value f1)]),(3,AV.ref 0 0),(4,i6 0),(6,lro F0.length 2 (F0.flatMap featC)),(7,i6 (↑F0.length:Int)),(8,i6 0)] [Ob.cells [st (Feat.name f1),st (Feat.value f1)]]
abbrev f89_D0:List Nat:=[18,4,17,16,15,14,13,12,11,5,10,9]
theorem f89_L0 (F0:List Feat)(f1:Feat)(X:Ext)(call:Caller)(lf n:Nat)(x:Ex) (S' : St)
 (hn:n<lf)
 (hs:∀ j,j<n→∃ S1,vexec Tryd.prog X call lf 0 noFg (loopN Tryd.f89 0) (f89_F0 F0 f1 j)=some (Ex.normal,S1)∧forget f89_D0 S1=(f89_F0 F0 f1 (j + 1)))
 (he:vexec Tryd.prog X call lf 0 noFg (loopN Tryd.f89 0) (f89_F0 F0 f1 n)=some (x,S'))
 (hx:x ≠ Ex.normal):vexec Tryd.prog X call lf 0 noFg (Go.Code.loop (loopN Tryd.f89 0)) (f89_S0 F0 f1)=some (x,S') :=
  loop_runK (by kernel_rfl) (fun j=>(f89_F0 F0 f1 j)) n hn (by show forget f89_D0 (f89_S0 F0 f1)=(f89_F0 F0 f1 0); unfold f89_F0; show _=_; kernel_rfl) hs he hx
def f89_S1 (F0:List Feat)(f1:Feat)(i0:Nat)(a b:ByteArray)(r14:List AV):St :=
  stOf 19 [18] [(0,lro F0.length 2 (F0.flatMap featC)),(1,AV.agg [st (Feat.name f1),st (Feat.value f1)]),(3,AV.ref 0 0),(4,i6 (↑i0:Int)),(5,i6 (↑i0:Int)),(6,lro F0.length 2 (F0.flatMap featC)),(7,i6 (↑F0.length:Int)),(8,i6 (↑i0:Int)),(9,bo true),(10,i6 (↑i0:Int)),(11,AV.agg [st (Feat.name f1),st (Feat.value f1)]),(12,lro F0.length 2 (F0.flatMap featC)),(13,i6 (↑i0:Int)),(14,AV.eaddr (st a::st b::r14)),(15,AV.agg [st a,st b]),(16,bo true),(17,i6 (↑i0:Int))] [Ob.cells [st (Feat.name f1),st (Feat.value f1)]]
theorem f89_r0_tt (F0:List Feat)(f1:Feat)(X:Ext)(call:Caller)(lf i0:Nat)(a c:ByteArray)(r14:List AV)
 (h0:decide ((↑i0:Int)<(↑F0.length:Int))=true)
 (h1:keep [Ob.cells [st (Feat.name f1),st (Feat.value f1)]] (indexAddrv Tryd.prog 31 [Ob.cells [st (Feat.name f1),st (Feat.value f1)]] (lro F0.length 2 (F0.flatMap featC)) (i6 (↑i0:Int)))=some (AV.eaddr (st a::st c::r14),[Ob.cells [st (Feat.name f1),st (Feat.value f1)]]))
 (h2:(ByteArray.toList (Feat.name f1) == ByteArray.toList a && (ByteArray.toList (Feat.value f1) == ByteArray.toList c && true))=true):vexec Tryd.prog X call lf 0 noFg (loopN Tryd.f89 0) (f89_F0 F0 f1 i0)=some (Ex.ret,(f89_S1 F0 f1 i0 a c r14)) :=
  around_sound (ans:=[(1,Ans.b true),(10,Ans.v (AV.eaddr (st a::st c::r14))),(12,Ans.b true)]) (by kernel_rfl) (ai h0 (ai h1 (ai h2 trivial)))
theorem f89_pltt (F0:List Feat)(f1:Feat)(X:Ext)(call:Caller)(lf i0:Nat)(a b:ByteArray)(r14:List AV)
 (h0:vexec Tryd.prog X call lf 0 noFg (Code.loop (loopN Tryd.f89 0)) (f89_S0 F0 f1)=some (Ex.ret,(f89_S1 F0 f1 i0 a b r14))):vbody Tryd.prog X call lf noFg Tryd.f89 (codeOf Tryd.f89) [featsV F0,AV.agg (featC f1)] [] 0=some (i6 (↑i0:Int),[Ob.cells [st (Feat.name f1),st (Feat.value f1)]]) :=
  along_sound (ans:=[(7,Ans.l Ex.ret (f89_S1 F0 f1 i0 a b r14))]) (by kernel_rfl) (ai h0 trivial)
theorem f89_s0_tf (F0:List Feat)(f1:Feat)(X:Ext)(call:Caller)(lf i0:Nat)(a c:ByteArray)(r14:List AV)
 (h0:decide ((↑i0:Int)<(↑F0.length:Int))=true)
 (h1:keep [Ob.cells [st (Feat.name f1),st (Feat.value f1)]] (indexAddrv Tryd.prog 31 [Ob.cells [st (Feat.name f1),st (Feat.value f1)]] (lro F0.length 2 (F0.flatMap featC)) (i6 (↑i0:Int)))=some (AV.eaddr (st a::st c::r14),[Ob.cells [st (Feat.name f1),st (Feat.value f1)]]))
 (h2:(ByteArray.toList (Feat.name f1) == ByteArray.toList a && (ByteArray.toList (Feat.value f1) == ByteArray.toList c && true))=false)
 (e0:(↑(i0 + 1):Int)=w6 ((↑i0:Int) + 1)):∃ S1,vexec Tryd.prog X call lf 0 noFg (loopN Tryd.f89 0) (f89_F0 F0 f1 i0)=some (Ex.normal,S1)∧forget f89_D0 S1=(f89_F0 F0 f1 (i0 + 1)) :=
  ⟨stOf 19 [4,17] [(0,lro F0.length 2 (F0.flatMap featC)),(1,AV.agg [st (Feat.name f1),st (Feat.value f1)]),(3,AV.ref 0 0),(5,i6 (↑i0:Int)),(6,lro F0.length 2 (F0.flatMap featC)),(7,i6 (↑F0.length:Int)),(8,i6 (w6 ((↑i0:Int) + 1))),(9,bo true),(10,i6 (↑i0:Int)),(11,AV.agg [st (Feat.name f1),st (Feat.value f1)]),(12,lro F0.length 2 (F0.flatMap featC)),(13,i6 (↑i0:Int)),(14,AV.eaddr (st a::st c::r14)),(15,AV.agg [st a,st c]),(16,bo false),(18,i6 (w6 ((↑i0:Int) + 1)))] [Ob.cells [st (Feat.name f1),st (Feat.value f1)]],around_sound (ans:=[(1,Ans.b true),(10,Ans.v (AV.eaddr (st a::st c::r14))),(12,Ans.b false)]) (by kernel_rfl) (ai h0 (ai h1 (ai h2 trivial))),by unfold f89_F0; rw [e0]; show _=_; kernel_rfl⟩
def f89_S2 (F0:List Feat)(f1:Feat)(i0:Nat):St :=
  stOf 19 [4,5,10,11,12,13,14,15,16,17,18] [(0,lro F0.length 2 (F0.flatMap featC)),(1,AV.agg [st (Feat.name f1),st (Feat.value f1)]),(3,AV.ref 0 0),(6,lro F0.length 2 (F0.flatMap featC)),(7,i6 (↑F0.length:Int)),(8,i6 (↑i0:Int)),(9,bo false)] [Ob.cells [st (Feat.name f1),st (Feat.value f1)]]
theorem f89_r0_f (F0:List Feat)(f1:Feat)(X:Ext)(call:Caller)(lf i0:Nat)
 (h0:decide ((↑i0:Int)<(↑F0.length:Int))=false):vexec Tryd.prog X call lf 0 noFg (loopN Tryd.f89 0) (f89_F0 F0 f1 i0)=some (Ex.exit 0,(f89_S2 F0 f1 i0)) :=
  around_sound (ans:=[(1,Ans.b false)]) (by kernel_rfl) (ai h0 trivial)
theorem f89_plf (F0:List Feat)(f1:Feat)(X:Ext)(call:Caller)(lf i0:Nat)
 (h0:vexec Tryd.prog X call lf 0 noFg (Code.loop (loopN Tryd.f89 0)) (f89_S0 F0 f1)=some (Ex.exit 0,(f89_S2 F0 f1 i0))):vbody Tryd.prog X call lf noFg Tryd.f89 (codeOf Tryd.f89) [featsV F0,AV.agg (featC f1)] [] 0=some (i6 (-1),[Ob.cells [st (Feat.name f1),st (Feat.value f1)]]) :=
  along_sound (ans:=[(7,Ans.l (Ex.exit 0) (f89_S2 F0 f1 i0))]) (by kernel_rfl) (ai h0 trivial)
def f89_o0 (F0:List Feat)(f1:Feat)(i0:Nat)(a b:ByteArray):Nat :=
  (match decide ((↑i0:Int)<(↑F0.length:Int)) with
  | true=>(match (ByteArray.toList (Feat.name f1) == ByteArray.toList a && (ByteArray.toList (Feat.value f1) == ByteArray.toList b && true)) with
    | true=>1
    | false=>0)
  | false=>2)
theorem f89_B0 (F0:List Feat)(f1:Feat)(X:Ext)(call:Caller)(lf i0:Nat)(a b:ByteArray)(r14:List AV)
 (g0:decide ((↑i0:Int)<(↑F0.length:Int))=true→keep [Ob.cells [st (Feat.name f1),st (Feat.value f1)]] (indexAddrv Tryd.prog 31 [Ob.cells [st (Feat.name f1),st (Feat.value f1)]] (lro F0.length 2 (F0.flatMap featC)) (i6 (↑i0:Int)))=some (AV.eaddr (st a::st b::r14),[Ob.cells [st (Feat.name f1),st (Feat.value f1)]]))
 (e0:decide ((↑i0:Int)<(↑F0.length:Int))=true→(↑(i0 + 1):Int)=w6 ((↑i0:Int) + 1)) :
    (f89_o0 F0 f1 i0 a b=0→∃ S1,vexec Tryd.prog X call lf 0 noFg (loopN Tryd.f89 0) (f89_F0 F0 f1 i0)=some (Ex.normal,S1)∧forget f89_D0 S1=(f89_F0 F0 f1 (i0 + 1)))∧(f89_o0 F0 f1 i0 a b=1→vexec Tryd.prog X call lf 0 noFg (loopN Tryd.f89 0) (f89_F0 F0 f1 i0)=some (Ex.ret,(f89_S1 F0 f1 i0 a b r14)))∧(f89_o0 F0 f1 i0 a b=2→vexec Tryd.prog X call lf 0 noFg (loopN Tryd.f89 0) (f89_F0 F0 f1 i0)=some (Ex.exit 0,(f89_S2 F0 f1 i0))):=by
  unfold f89_o0
  cases c0:decide ((↑i0:Int)<(↑F0.length:Int)) with
  | true =>
    cases c1:(ByteArray.toList (Feat.name f1) == ByteArray.toList a && (ByteArray.toList (Feat.value f1) == ByteArray.toList b && true)) with
    | true =>
      exact ⟨fun h=>absurd (show (1:Nat)=0 from h) (by decide),fun _=>f89_r0_tt F0 f1 X call lf i0 a b r14 c0 (g0 c0) c1,fun h=>absurd (show (1:Nat)=2 from h) (by decide)⟩
    | false =>
      exact ⟨fun _=>f89_s0_tf F0 f1 X call lf i0 a b r14 c0 (g0 c0) c1 (e0 c0),fun h=>absurd (show (0:Nat)=1 from h) (by decide),fun h=>absurd (show (0:Nat)=2 from h) (by decide)⟩
  | false =>
    exact ⟨fun h=>absurd (show (2:Nat)=0 from h) (by decide),fun h=>absurd (show (2:Nat)=1 from h) (by decide),fun _=>f89_r0_f F0 f1 X call lf i0 c0⟩
theorem f89_X0 (F0:List Feat)(f1:Feat)(X:Ext)(call:Caller)(lf i0:Nat)(a b:ByteArray)(r14:List AV)
 (g0:decide ((↑i0:Int)<(↑F0.length:Int))=true→keep [Ob.cells [st (Feat.name f1),st (Feat.value f1)]] (indexAddrv Tryd.prog 31 [Ob.cells [st (Feat.name f1),st (Feat.value f1)]] (lro F0.length 2 (F0.flatMap featC)) (i6 (↑i0:Int)))=some (AV.eaddr (st a::st b::r14),[Ob.cells [st (Feat.name f1),st (Feat.value f1)]])) :
    (f89_o0 F0 f1 i0 a b=1→vexec Tryd.prog X call lf 0 noFg (loopN Tryd.f89 0) (f89_F0 F0 f1 i0)=some (Ex.ret,(f89_S1 F0 f1 i0 a b r14)))∧(f89_o0 F0 f1 i0 a b=2→vexec Tryd.prog X call lf 0 noFg (loopN Tryd.f89 0) (f89_F0 F0 f1 i0)=some (Ex.exit 0,(f89_S2 F0 f1 i0))):=by
  unfold f89_o0
  cases c0:decide ((↑i0:Int)<(↑F0.length:Int)) with
  | true =>
    cases c1:(ByteArray.toList (Feat.name f1) == ByteArray.toList a && (ByteArray.toList (Feat.value f1) == ByteArray.toList b && true)) with
    | true =>
      exact ⟨fun _=>f89_r0_tt F0 f1 X call lf i0 a b r14 c0 (g0 c0) c1,fun h=>absurd (show (1:Nat)=2 from h) (by decide)⟩
    | false =>
      exact ⟨fun h=>absurd (show (0:Nat)=1 from h) (by decide),fun h=>absurd (show (0:Nat)=2 from h) (by decide)⟩
  | false =>
    exact ⟨fun h=>absurd (show (2:Nat)=1 from h) (by decide),fun _=>f89_r0_f F0 f1 X call lf i0 c0⟩
theorem f89_M (F0:List Feat)(f1:Feat)(X:Ext)(call:Caller)(lf n:Nat)(a b:Nat→ByteArray)(r14:Nat→List AV)
 (hn:n<lf)
 (g0:∀ i0,i0 ≤ n→decide ((↑i0:Int)<(↑F0.length:Int))=true→keep [Ob.cells [st (Feat.name f1),st (Feat.value f1)]] (indexAddrv Tryd.prog 31 [Ob.cells [st (Feat.name f1),st (Feat.value f1)]] (lro F0.length 2 (F0.flatMap featC)) (i6 (↑i0:Int)))=some (AV.eaddr (st (a i0)::st (b i0)::(r14 i0)),[Ob.cells [st (Feat.name f1),st (Feat.value f1)]]))
 (e0:∀ i0,i0<n→decide ((↑i0:Int)<(↑F0.length:Int))=true→(↑(i0 + 1):Int)=w6 ((↑i0:Int) + 1))
 (hz:∀ j,j<n→f89_o0 F0 f1 j (a j) (b j)=0) :
    (f89_o0 F0 f1 n (a n) (b n)=1→vbody Tryd.prog X call lf noFg Tryd.f89 (codeOf Tryd.f89) [featsV F0,AV.agg (featC f1)] [] 0=some (i6 (↑n:Int),[Ob.cells [st (Feat.name f1),st (Feat.value f1)]]))∧(f89_o0 F0 f1 n (a n) (b n)=2→vbody Tryd.prog X call lf noFg Tryd.f89 (codeOf Tryd.f89) [featsV F0,AV.agg (featC f1)] [] 0=some (i6 (-1),[Ob.cells [st (Feat.name f1),st (Feat.value f1)]])):=by
  have key:∀ j,j<n→_:=fun j hj=>(f89_B0 F0 f1 X call lf j (a j) (b j) (r14 j) (g0 j (Nat.le_of_lt hj)) (e0 j hj)).1 (hz j hj)
  have kn:=f89_X0 F0 f1 X call lf n (a n) (b n) (r14 n) (g0 n (Nat.le_refl n))
  exact ⟨fun hk=>f89_pltt F0 f1 X call lf n (a n) (b n) (r14 n) (f89_L0 F0 f1 X call lf n _ _ hn key (kn.1 hk) (by simp)),
    fun hk=>f89_plf F0 f1 X call lf n (f89_L0 F0 f1 X call lf n _ _ hn key (kn.2 hk) (by simp))⟩
theorem f65_pt (F0:List Feat)(f1:Feat)(X:Ext)(call:Caller)(lf:Nat)(n7:Int)
 (h0:callv X call false 89 [lro F0.length 2 (F0.flatMap featC),AV.agg [st (Feat.name f1),st (Feat.value f1)]] [Ob.cells [st (Feat.name f1),st (Feat.value f1)]] 0=some (i6 n7,[Ob.cells [st (Feat.name f1),st (Feat.value f1)]]))
 (h1:decide (n7 ≥ 0)=true):vbody Tryd.prog X call lf noFg Tryd.f65 (codeOf Tryd.f65) [featsV F0,AV.agg (featC f1)] [] 0=some (bo true,[Ob.cells [st (Feat.name f1),st (Feat.value f1)]]) :=
  along_sound (ans:=[(6,Ans.v (i6 n7)),(7,Ans.b true)]) (by kernel_rfl) (ai h0 (ai h1 trivial))
theorem f65_pf (F0:List Feat)(f1:Feat)(X:Ext)(call:Caller)(lf:Nat)(n7:Int)
 (h0:callv X call false 89 [lro F0.length 2 (F0.flatMap featC),AV.agg [st (Feat.name f1),st (Feat.value f1)]] [Ob.cells [st (Feat.name f1),st (Feat.value f1)]] 0=some (i6 n7,[Ob.cells [st (Feat.name f1),st (Feat.value f1)]]))
 (h1:decide (n7 ≥ 0)=false):vbody Tryd.prog X call lf noFg Tryd.f65 (codeOf Tryd.f65) [featsV F0,AV.agg (featC f1)] [] 0=some (bo false,[Ob.cells [st (Feat.name f1),st (Feat.value f1)]]) :=
  along_sound (ans:=[(6,Ans.v (i6 n7)),(7,Ans.b false)]) (by kernel_rfl) (ai h0 (ai h1 trivial))
def fg67:Nat→List Nat
  | 5003=>[1]
  | 5007=>[1]
  | _=>[]
def f67_F0 (F0 F1:List Feat)(i0:Nat):St :=
  stOf 32 [4,6,7,9,13,14,15,16,17,18,19,20,21,22,23,24,25,26,27,28,29,30,31] [(0,lro F0.length 2 (F0.flatMap featC)),(1,lro F1.length 2 (F1.flatMap featC)),(10,lro F1.length 2 (F1.flatMap featC)),(11,i6 (↑F1.length:Int)),(12,i6 (↑i0:Int))] []
def f67_S0 (F0 F1:List Feat):St :=
  stOf 32 [] [(0,lro F0.length 2 (F0.flatMap featC)),(1,lro F1.length 2 (F1.flatMap featC)),(4,bo false),(10,lro F1.length 2 (F1.flatMap featC)),(11,i6 (↑F1.length:Int)),(12,i6 0)] []
abbrev f67_D0:List Nat:=[31,4,30,29,28,27,26,25,24,23,22,9,21,20,19,18,17,16,7,6,15,14,13]
theorem f67_L0 (F0 F1:List Feat)(X:Ext)(call:Caller)(lf n:Nat)(x:Ex) (S' : St)
 (hn:n<lf)
 (hs:∀ j,j<n→∃ S1,vexec Tryd.prog X call lf 0 fg67 (loopN Tryd.f67 0) (f67_F0 F0 F1 j)=some (Ex.normal,S1)∧forget f67_D0 S1=(f67_F0 F0 F1 (j + 1)))
 (he:vexec Tryd.prog X call lf 0 fg67 (loopN Tryd.f67 0) (f67_F0 F0 F1 n)=some (x,S'))
 (hx:x ≠ Ex.normal):vexec Tryd.prog X call lf 0 fg67 (Go.Code.loop (loopN Tryd.f67 0)) (f67_S0 F0 F1)=some (x,S') :=
  loop_runK (by kernel_rfl) (fun j=>(f67_F0 F0 F1 j)) n hn (by show forget f67_D0 (f67_S0 F0 F1)=(f67_F0 F0 F1 0); unfold f67_F0; show _=_; kernel_rfl) hs he hx
def f67_F1 (F0 F1:List Feat)(i0:Nat)(a b:ByteArray)(r14:List AV)(g7:Nat→Bool)(i1:Nat):St :=
  stOf 32 [4,9,19,20,21,22,23,24,25,26,27,28,29,30,31] [(0,lro F0.length 2 (F0.flatMap featC)),(1,lro F1.length 2 (F1.flatMap featC)),(6,AV.eaddr [st a,st b]),(7,bo (g7 i1)),(10,lro F1.length 2 (F1.flatMap featC)),(11,i6 (↑F1.length:Int)),(12,i6 (↑i0:Int)),(13,bo true),(14,AV.eaddr (st a::st b::r14)),(15,AV.agg [st a,st b]),(16,lro F0.length 2 (F0.flatMap featC)),(17,i6 (↑F0.length:Int)),(18,i6 (↑i1:Int))] []
def f67_S1 (F0 F1:List Feat)(i0:Nat)(a b:ByteArray)(r14:List AV):St :=
  stOf 32 [4,9,19,20,21,22,23,24,25,26,27,28,29,30,31] [(0,lro F0.length 2 (F0.flatMap featC)),(1,lro F1.length 2 (F1.flatMap featC)),(6,AV.eaddr [st a,st b]),(7,bo false),(10,lro F1.length 2 (F1.flatMap featC)),(11,i6 (↑F1.length:Int)),(12,i6 (↑i0:Int)),(13,bo true),(14,AV.eaddr (st a::st b::r14)),(15,AV.agg [st a,st b]),(16,lro F0.length 2 (F0.flatMap featC)),(17,i6 (↑F0.length:Int)),(18,i6 0)] []
abbrev f67_D1:List Nat:=[28,27,26,25,24,23,22,9,21,20,19]
theorem f67_L1 (F0 F1:List Feat)(i0:Nat)(a b:ByteArray)(r14:List AV)(g7:Nat→Bool)(X:Ext)(call:Caller)(lf n:Nat)(x:Ex) (S' : St)
 (e0:g7 0=false)
 (hn:n<lf)
 (hs:∀ j,j<n→∃ S1,vexec Tryd.prog X call lf 0 fg67 (loopN Tryd.f67 1) (f67_F1 F0 F1 i0 a b r14 g7 j)=some (Ex.normal,S1)∧forget f67_D1 S1=(f67_F1 F0 F1 i0 a b r14 g7 (j + 1)))
 (he:vexec Tryd.prog X call lf 0 fg67 (loopN Tryd.f67 1) (f67_F1 F0 F1 i0 a b r14 g7 n)=some (x,S'))
 (hx:x ≠ Ex.normal):vexec Tryd.prog X call lf 0 fg67 (Go.Code.loop (loopN Tryd.f67 1)) (f67_S1 F0 F1 i0 a b r14)=some (x,S') :=
  loop_runK (by kernel_rfl) (fun j=>(f67_F1 F0 F1 i0 a b r14 g7 j)) n hn (by show forget f67_D1 (f67_S1 F0 F1 i0 a b r14)=(f67_F1 F0 F1 i0 a b r14 g7 0); unfold f67_F1; rw [e0]; show _=_; kernel_rfl) hs he hx
theorem f67_s1_tt (F0 F1:List Feat)(X:Ext)(call:Caller)(lf i0:Nat)(a c:ByteArray)(r14:List AV)(g7:Nat→Bool)(i1:Nat)(d e:ByteArray)(r20:List AV)
 (h0:decide ((↑i1:Int)<(↑F0.length:Int))=true)
 (h1:keep [] (indexAddrv Tryd.prog 31 [] (lro F0.length 2 (F0.flatMap featC)) (i6 (↑i1:Int)))=some (AV.eaddr (st d::st e::r20),[]))
 (h2:g7 i1=true)
 (e0:g7 (i1 + 1)=true)
 (e1:(↑(i1 + 1):Int)=w6 ((↑i1:Int) + 1)):∃ S1,vexec Tryd.prog X call lf 0 fg67 (loopN Tryd.f67 1) (f67_F1 F0 F1 i0 a c r14 g7 i1)=some (Ex.normal,S1)∧forget f67_D1 S1=(f67_F1 F0 F1 i0 a c r14 g7 (i1 + 1)) :=
  ⟨stOf 32 [4,29,30,31] [(0,lro F0.length 2 (F0.flatMap featC)),(1,lro F1.length 2 (F1.flatMap featC)),(6,AV.eaddr [st a,st c]),(7,bo true),(9,AV.eaddr [st d,st e]),(10,lro F1.length 2 (F1.flatMap featC)),(11,i6 (↑F1.length:Int)),(12,i6 (↑i0:Int)),(13,bo true),(14,AV.eaddr (st a::st c::r14)),(15,AV.agg [st a,st c]),(16,lro F0.length 2 (F0.flatMap featC)),(17,i6 (↑F0.length:Int)),(18,i6 (w6 ((↑i1:Int) + 1))),(19,bo true),(20,AV.eaddr (st d::st e::r20)),(21,AV.agg [st d,st e]),(22,bo true),(23,bo true),(27,bo true),(28,i6 (w6 ((↑i1:Int) + 1)))] [],around_sound (ans:=[(1,Ans.b true),(4,Ans.v (AV.eaddr (st d::st e::r20))),(7,Ans.b true)]) (by kernel_rfl) (ai h0 (ai h1 (ai h2 trivial))),by unfold f67_F1; rw [e0,e1]; show _=_; kernel_rfl⟩
theorem f67_s1_tft (F0 F1:List Feat)(X:Ext)(call:Caller)(lf i0:Nat)(a c:ByteArray)(r14:List AV)(g7:Nat→Bool)(i1:Nat)(d e:ByteArray)(r20:List AV)
 (h0:decide ((↑i1:Int)<(↑F0.length:Int))=true)
 (h1:keep [] (indexAddrv Tryd.prog 31 [] (lro F0.length 2 (F0.flatMap featC)) (i6 (↑i1:Int)))=some (AV.eaddr (st d::st e::r20),[]))
 (h2:g7 i1=false)
 (h3:(ByteArray.toList a == ByteArray.toList d && (ByteArray.toList c == ByteArray.toList e && true))=true)
 (e0:g7 (i1 + 1)=true)
 (e1:(↑(i1 + 1):Int)=w6 ((↑i1:Int) + 1)):∃ S1,vexec Tryd.prog X call lf 0 fg67 (loopN Tryd.f67 1) (f67_F1 F0 F1 i0 a c r14 g7 i1)=some (Ex.normal,S1)∧forget f67_D1 S1=(f67_F1 F0 F1 i0 a c r14 g7 (i1 + 1)) :=
  ⟨stOf 32 [4,29,30,31] [(0,lro F0.length 2 (F0.flatMap featC)),(1,lro F1.length 2 (F1.flatMap featC)),(6,AV.eaddr [st a,st c]),(7,bo true),(9,AV.eaddr [st d,st e]),(10,lro F1.length 2 (F1.flatMap featC)),(11,i6 (↑F1.length:Int)),(12,i6 (↑i0:Int)),(13,bo true),(14,AV.eaddr (st a::st c::r14)),(15,AV.agg [st a,st c]),(16,lro F0.length 2 (F0.flatMap featC)),(17,i6 (↑F0.length:Int)),(18,i6 (w6 ((↑i1:Int) + 1))),(19,bo true),(20,AV.eaddr (st d::st e::r20)),(21,AV.agg [st d,st e]),(22,bo false),(23,bo false),(24,AV.agg [st a,st c]),(25,AV.agg [st d,st e]),(26,bo true),(27,bo true),(28,i6 (w6 ((↑i1:Int) + 1)))] [],around_sound (ans:=[(1,Ans.b true),(4,Ans.v (AV.eaddr (st d::st e::r20))),(7,Ans.b false),(14,Ans.b true)]) (by kernel_rfl) (ai h0 (ai h1 (ai h2 (ai h3 trivial)))),by unfold f67_F1; rw [e0,e1]; show _=_; kernel_rfl⟩
theorem f67_s1_tff (F0 F1:List Feat)(X:Ext)(call:Caller)(lf i0:Nat)(a c:ByteArray)(r14:List AV)(g7:Nat→Bool)(i1:Nat)(d e:ByteArray)(r20:List AV)
 (h0:decide ((↑i1:Int)<(↑F0.length:Int))=true)
 (h1:keep [] (indexAddrv Tryd.prog 31 [] (lro F0.length 2 (F0.flatMap featC)) (i6 (↑i1:Int)))=some (AV.eaddr (st d::st e::r20),[]))
 (h2:g7 i1=false)
 (h3:(ByteArray.toList a == ByteArray.toList d && (ByteArray.toList c == ByteArray.toList e && true))=false)
 (e0:g7 (i1 + 1)=false)
 (e1:(↑(i1 + 1):Int)=w6 ((↑i1:Int) + 1)):∃ S1,vexec Tryd.prog X call lf 0 fg67 (loopN Tryd.f67 1) (f67_F1 F0 F1 i0 a c r14 g7 i1)=some (Ex.normal,S1)∧forget f67_D1 S1=(f67_F1 F0 F1 i0 a c r14 g7 (i1 + 1)) :=
  ⟨stOf 32 [4,29,30,31] [(0,lro F0.length 2 (F0.flatMap featC)),(1,lro F1.length 2 (F1.flatMap featC)),(6,AV.eaddr [st a,st c]),(7,bo false),(9,AV.eaddr [st d,st e]),(10,lro F1.length 2 (F1.flatMap featC)),(11,i6 (↑F1.length:Int)),(12,i6 (↑i0:Int)),(13,bo true),(14,AV.eaddr (st a::st c::r14)),(15,AV.agg [st a,st c]),(16,lro F0.length 2 (F0.flatMap featC)),(17,i6 (↑F0.length:Int)),(18,i6 (w6 ((↑i1:Int) + 1))),(19,bo true),(20,AV.eaddr (st d::st e::r20)),(21,AV.agg [st d,st e]),(22,bo false),(23,bo false),(24,AV.agg [st a,st c]),(25,AV.agg [st d,st e]),(26,bo false),(27,bo false),(28,i6 (w6 ((↑i1:Int) + 1)))] [],around_sound (ans:=[(1,Ans.b true),(4,Ans.v (AV.eaddr (st d::st e::r20))),(7,Ans.b false),(14,Ans.b false)]) (by kernel_rfl) (ai h0 (ai h1 (ai h2 (ai h3 trivial)))),by unfold f67_F1; rw [e0,e1]; show _=_; kernel_rfl⟩
def f67_S2 (F0 F1:List Feat)(i0:Nat)(a b:ByteArray)(r14:List AV)(g7:Nat→Bool)(i1:Nat):St :=
  stOf 32 [4,9,20,21,22,23,24,25,26,27,28,29,30,31] [(0,lro F0.length 2 (F0.flatMap featC)),(1,lro F1.length 2 (F1.flatMap featC)),(6,AV.eaddr [st a,st b]),(7,bo (g7 i1)),(10,lro F1.length 2 (F1.flatMap featC)),(11,i6 (↑F1.length:Int)),(12,i6 (↑i0:Int)),(13,bo true),(14,AV.eaddr (st a::st b::r14)),(15,AV.agg [st a,st b]),(16,lro F0.length 2 (F0.flatMap featC)),(17,i6 (↑F0.length:Int)),(18,i6 (↑i1:Int)),(19,bo false)] []
theorem f67_r1_f (F0 F1:List Feat)(X:Ext)(call:Caller)(lf i0:Nat)(a c:ByteArray)(r14:List AV)(g7:Nat→Bool)(i1:Nat)
 (h0:decide ((↑i1:Int)<(↑F0.length:Int))=false):vexec Tryd.prog X call lf 0 fg67 (loopN Tryd.f67 1) (f67_F1 F0 F1 i0 a c r14 g7 i1)=some (Ex.exit 2,(f67_S2 F0 F1 i0 a c r14 g7 i1)) :=
  around_sound (ans:=[(1,Ans.b false)]) (by kernel_rfl) (ai h0 trivial)
theorem f67_s0_tlft (F0 F1:List Feat)(X:Ext)(call:Caller)(lf i0:Nat)(a c:ByteArray)(r14:List AV)(g7:Nat→Bool)(i1:Nat)
 (h0:decide ((↑i0:Int)<(↑F1.length:Int))=true)
 (h1:keep [] (indexAddrv Tryd.prog 31 [] (lro F1.length 2 (F1.flatMap featC)) (i6 (↑i0:Int)))=some (AV.eaddr (st a::st c::r14),[]))
 (h2:vexec Tryd.prog X call lf 0 fg67 (Code.loop (loopN Tryd.f67 1)) (f67_S1 F0 F1 i0 a c r14)=some (Ex.exit 2,(f67_S2 F0 F1 i0 a c r14 g7 i1)))
 (h3:g7 i1=true)
 (e0:(↑(i0 + 1):Int)=w6 ((↑i0:Int) + 1)):∃ S1,vexec Tryd.prog X call lf 0 fg67 (loopN Tryd.f67 0) (f67_F0 F0 F1 i0)=some (Ex.normal,S1)∧forget f67_D0 S1=(f67_F0 F0 F1 (i0 + 1)) :=
  ⟨stOf 32 [4,9,20,21,22,23,24,25,26,27,28] [(0,lro F0.length 2 (F0.flatMap featC)),(1,lro F1.length 2 (F1.flatMap featC)),(6,AV.eaddr [st a,st c]),(7,bo (g7 i1)),(10,lro F1.length 2 (F1.flatMap featC)),(11,i6 (↑F1.length:Int)),(12,i6 (w6 ((↑i0:Int) + 1))),(13,bo true),(14,AV.eaddr (st a::st c::r14)),(15,AV.agg [st a,st c]),(16,lro F0.length 2 (F0.flatMap featC)),(17,i6 (↑F0.length:Int)),(18,i6 (↑i1:Int)),(19,bo false),(29,bo true),(30,bo false),(31,i6 (w6 ((↑i0:Int) + 1)))] [],around_sound (ans:=[(1,Ans.b true),(4,Ans.v (AV.eaddr (st a::st c::r14))),(12,Ans.l (Ex.exit 2) (f67_S2 F0 F1 i0 a c r14 g7 i1)),(14,Ans.b true)]) (by kernel_rfl) (ai h0 (ai h1 (ai h2 (ai h3 trivial)))),by unfold f67_F0; rw [e0]; show _=_; kernel_rfl⟩
def f67_S3 (F0 F1:List Feat)(i0:Nat)(a b:ByteArray)(r14:List AV)(g7:Nat→Bool)(i1:Nat):St :=
  stOf 32 [9,20,21,22,23,24,25,26,27,28,31] [(0,lro F0.length 2 (F0.flatMap featC)),(1,lro F1.length 2 (F1.flatMap featC)),(4,bo false),(6,AV.eaddr [st a,st b]),(7,bo (g7 i1)),(10,lro F1.length 2 (F1.flatMap featC)),(11,i6 (↑F1.length:Int)),(12,i6 (↑i0:Int)),(13,bo true),(14,AV.eaddr (st a::st b::r14)),(15,AV.agg [st a,st b]),(16,lro F0.length 2 (F0.flatMap featC)),(17,i6 (↑F0.length:Int)),(18,i6 (↑i1:Int)),(19,bo false),(29,bo false),(30,bo true)] []
theorem f67_r0_tlff (F0 F1:List Feat)(X:Ext)(call:Caller)(lf i0:Nat)(a c:ByteArray)(r14:List AV)(g7:Nat→Bool)(i1:Nat)
 (h0:decide ((↑i0:Int)<(↑F1.length:Int))=true)
 (h1:keep [] (indexAddrv Tryd.prog 31 [] (lro F1.length 2 (F1.flatMap featC)) (i6 (↑i0:Int)))=some (AV.eaddr (st a::st c::r14),[]))
 (h2:vexec Tryd.prog X call lf 0 fg67 (Code.loop (loopN Tryd.f67 1)) (f67_S1 F0 F1 i0 a c r14)=some (Ex.exit 2,(f67_S2 F0 F1 i0 a c r14 g7 i1)))
 (h3:g7 i1=false):vexec Tryd.prog X call lf 0 fg67 (loopN Tryd.f67 0) (f67_F0 F0 F1 i0)=some (Ex.ret,(f67_S3 F0 F1 i0 a c r14 g7 i1)) :=
  around_sound (ans:=[(1,Ans.b true),(4,Ans.v (AV.eaddr (st a::st c::r14))),(12,Ans.l (Ex.exit 2) (f67_S2 F0 F1 i0 a c r14 g7 i1)),(14,Ans.b false)]) (by kernel_rfl) (ai h0 (ai h1 (ai h2 (ai h3 trivial))))
theorem f67_pltlff (F0 F1:List Feat)(X:Ext)(call:Caller)(lf i0:Nat)(a b:ByteArray)(r14:List AV)(g7:Nat→Bool)(i1:Nat)
 (h0:vexec Tryd.prog X call lf 0 fg67 (Code.loop (loopN Tryd.f67 0)) (f67_S0 F0 F1)=some (Ex.ret,(f67_S3 F0 F1 i0 a b r14 g7 i1))):vbody Tryd.prog X call lf fg67 Tryd.f67 (codeOf Tryd.f67) [featsV F0,featsV F1] [] 0=some (bo false,[]) :=
  along_sound (ans:=[(6,Ans.l Ex.ret (f67_S3 F0 F1 i0 a b r14 g7 i1))]) (by kernel_rfl) (ai h0 trivial)
def f67_S4 (F0 F1:List Feat)(i0:Nat):St :=
  stOf 32 [4,6,7,9,14,15,16,17,18,19,20,21,22,23,24,25,26,27,28,29,30,31] [(0,lro F0.length 2 (F0.flatMap featC)),(1,lro F1.length 2 (F1.flatMap featC)),(10,lro F1.length 2 (F1.flatMap featC)),(11,i6 (↑F1.length:Int)),(12,i6 (↑i0:Int)),(13,bo false)] []
theorem f67_r0_f (F0 F1:List Feat)(X:Ext)(call:Caller)(lf i0:Nat)
 (h0:decide ((↑i0:Int)<(↑F1.length:Int))=false):vexec Tryd.prog X call lf 0 fg67 (loopN Tryd.f67 0) (f67_F0 F0 F1 i0)=some (Ex.exit 0,(f67_S4 F0 F1 i0)) :=
  around_sound (ans:=[(1,Ans.b false)]) (by kernel_rfl) (ai h0 trivial)
theorem f67_plf (F0 F1:List Feat)(X:Ext)(call:Caller)(lf i0:Nat)
 (h0:vexec Tryd.prog X call lf 0 fg67 (Code.loop (loopN Tryd.f67 0)) (f67_S0 F0 F1)=some (Ex.exit 0,(f67_S4 F0 F1 i0))):vbody Tryd.prog X call lf fg67 Tryd.f67 (codeOf Tryd.f67) [featsV F0,featsV F1] [] 0=some (bo true,[]) :=
  along_sound (ans:=[(6,Ans.l (Ex.exit 0) (f67_S4 F0 F1 i0))]) (by kernel_rfl) (ai h0 trivial)
end Go.Proofs.Lex
end
/- Lexicon: lists that are equal; records; few; the first lexeme with an ID. -/
section
open Go Go.Vm Go.Proofs
namespace Go.Proofs.Lex
theorem eqB_iff {x y:ByteArray}:(x.toList == y.toList)=true ↔ x=y:=by
  rw [beq_iff_eq,ByteArray.toList_eq,ByteArray.toList_eq]
  constructor
  · intro h
    cases x; cases y
    simpa using h
  · rintro rfl; rfl
theorem eqB_ne {x y:ByteArray}:(x.toList == y.toList)=false ↔ x ≠ y:=by
  rw [← Bool.not_eq_true,eqB_iff]
theorem list_ext {α:Type} {d:α} {l m:List α} (h:l.length=m.length) (k:∀ i,i < l.length→l.getD i d=m.getD i d):l=m:=by
  apply List.ext_getElem h
  intro i h1 h2
  have:=k i h1
  rwa [getD_lt h1,getD_lt h2] at this
theorem neq_false {a b:Nat} (h:a=b):((↑a:Int) != (↑b:Int))=false:=by subst h; simp
theorem neq_true {a b:Nat} (h:a ≠ b):((↑a:Int) != (↑b:Int))=true:=by simp; omega
section
variable {X:Ext} {call:Caller} {lf:Nat}
/-- ref02.Same: two lists of features are equal. -/
theorem same60 {l m:List Feat} (hl:l.length ≤ big) (hlf:l.length < lf):∃ σ',vbody Tryd.prog X call lf noFg Tryd.f60 (codeOf Tryd.f60) [featsV l,featsV m] [] 0=some (bo (decide (l=m)),σ'):=by
  by_cases hlen:l.length=m.length
  case neg =>
    rw [decide_eq_false (fun e=>hlen (by rw [e]))]
    exact ⟨_,f60_pt l m X call lf (neq_true hlen)⟩
  have ho : ∀ i, (i < l.length → nF l i = nF m i → f60_o0 l i (nF l i).name (nF l i).value (nF m i).name (nF m i).value = 0) ∧ (i < l.length → nF l i ≠ nF m i → f60_o0 l i (nF l i).name (nF l i).value (nF m i).name (nF m i).value = 1) ∧ (¬ i < l.length → f60_o0 l i (nF l i).name (nF l i).value (nF m i).name (nF m i).value = 2) := by
    intro i
    unfold f60_o0
    refine ⟨fun h1 h2 => ?_,fun h1 h2 => ?_,fun h1 => ?_⟩
    · rw [decide_eq_true (by omega),h2]; simp
    · rw [decide_eq_true (by omega)]
      have : (((nF l i).name.toList == (nF m i).name.toList) && (((nF l i).value.toList == (nF m i).value.toList) && true)) = false := by
        rw [Bool.eq_false_iff]
        intro h
        simp only [Bool.and_eq_true,eqB_iff,and_true] at h
        apply h2
        cases hl:nF l i; cases hm:nF m i
        rw [hl,hm] at h
        simp only at h
        rw [h.1,h.2]
      rw [this]; rfl
    · rw [decide_eq_false (by omega)]
  rcases first_fail (p:=fun i=>nF l i=nF m i) l.length with hall | ⟨k,hk,hbad,hbef⟩
  · have M := f60_M l m X call lf l.length _ _ _ _ _ _ hlf (fun i _ h => at_feat (by simpa using h)) (fun i _ h => at_feat (by rw [← hlen]; simpa using h)) (fun i h _ => up h hl) (fun j hj => (ho j).1 hj (hall j hj))
    rw [decide_eq_true (list_ext hlen hall)]
    exact ⟨_,M.2 ((ho _).2.2 (by omega)) (neq_false hlen)⟩
  · have M := f60_M l m X call lf k _ _ _ _ _ _ (by omega) (fun i _ h => at_feat (by simpa using h)) (fun i _ h => at_feat (by rw [← hlen]; simpa using h)) (fun i h _ => up h (by omega)) (fun j hj => (ho j).1 (by omega) (hbef j hj))
    rw [decide_eq_false (fun e=>hbad (by rw [e]))]
    exact ⟨_,M.1 ((ho k).2.1 hk hbad) (neq_false hlen)⟩
/-- ref09.Same: two lexemes are equal. -/
theorem same25 {x y:Lexm} (h60:∀ σ,callv X call false 60 [featsV x.feats,featsV y.feats] σ 0=some (bo (decide (x.feats=y.feats)),σ)):∃ σ',vbody Tryd.prog X call lf noFg Tryd.f25 (codeOf Tryd.f25) [.agg (lexC x),.agg (lexC y)] [] 0=some (bo (decide (x=y)),σ'):=by
  have M:=f25_P0 x y X call lf (decide (x.feats=y.feats)) (fun _ _ _ _=>h60 _)
  have ho : f25_q0 x y (decide (x.feats = y.feats)) = if x = y then 0 else 1 := by
    unfold f25_q0
    cases x with
    | mk a b c d e =>
      cases y with
      | mk a' b' c' d' e' =>
        simp only [Lexm.mk.injEq]
        cases h1:(a.toList == a'.toList) with
        | false=>rw [if_neg (by rintro ⟨e,_⟩; exact eqB_ne.1 h1 e)]
        | true =>
          cases h2:(b.toList == b'.toList) with
          | false=>rw [if_neg (by rintro ⟨_,e,_⟩; exact eqB_ne.1 h2 e)]
          | true =>
            cases h3:(c.toList == c'.toList) with
            | false=>rw [if_neg (by rintro ⟨_,_,e,_⟩; exact eqB_ne.1 h3 e)]
            | true =>
              cases h4:(d.toList == d'.toList) with
              | false=>rw [if_neg (by rintro ⟨_,_,_,e,_⟩; exact eqB_ne.1 h4 e)]
              | true =>
                by_cases h5:e=e'
                · rw [decide_eq_true h5,if_pos ⟨eqB_iff.1 h1,eqB_iff.1 h2,eqB_iff.1 h3,eqB_iff.1 h4,h5⟩]
                · rw [decide_eq_false h5,if_neg (by rintro ⟨_,_,_,_,e⟩; exact h5 e)]
  by_cases h:x=y
  · rw [if_pos h] at ho
    rw [decide_eq_true h]
    exact ⟨_,M.1 ho⟩
  · rw [if_neg h] at ho
    rw [decide_eq_false h]
    exact ⟨_,M.2 ho⟩
end
end Go.Proofs.Lex
end
