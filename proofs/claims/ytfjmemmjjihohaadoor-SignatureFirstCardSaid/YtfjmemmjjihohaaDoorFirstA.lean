/- Part 1 of the texts of this claim: the evaluator, and what it says of the program's functions. -/
import Derived.RowKit3
import Derived.Below
import Derived.Laws.Sem
import Derived.Laws.Slices
import Derived.Calls
import Derived.Laws.Cells
import Derived.Laws.Strings
import Derived.Laws.StructEq
import Derived.Laws.OwnMore
import Derived.Deep.AppendSrc
import Derived.Orders
set_option linter.unusedSectionVars false
set_option linter.unusedVariables false
set_option linter.unusedSimpArgs false
set_option linter.constructorNameAsVariable false
/- The machine V: a deterministic evaluator of the model's code over abstract values: slices by value, boxes, maps and growing rows in a store of its own. Definitions alone. -/
section
namespace Go.Vm

/-- What is known of the room behind a slice that is told by value: nothing; none; it is new; it is nil. -/
inductive LK where
  | ro | clip | fresh | nil
  deriving DecidableEq,Inhabited

inductive AV where
  | int (k:IntKind) (n:Int)
  | bool (b:Bool)
  | str (s:ByteArray)
  | pnil
  | mnil
  | fnil
  | inil
  | undef
  | any
  | ref (id off:Nat)
  | eref (id n off:Nat)
  | map (id:Nat)
  | own (id n:Nat)
  | list (k:LK) (n sz:Nat) (cs:List AV)
  | eaddr (cs:List AV)
  | clo (f:FuncId) (caps:List AV)
  | agg (cs:List AV)
  | tup (vs:List AV)
  | iface (t:TypeId) (v:AV)
  | raw (u:Value)
  | ptag (t:TypeId)
  deriving Inhabited

/-- An object of the store: cells of a variable; a row that is the call's own; a row that is read by value from now on; a map. -/
inductive Ob where
  | cells (cs:List AV)
  | arr (n sz:Nat) (cs:List AV)
  | fro (n sz:Nat) (cs:List AV)
  | mapo (es:List (AV × AV))
  | gone
  | brow (t:TypeId) (l:List UInt8)
  deriving Inhabited

/-- A value of one cell. -/
def AV.one:AV→Bool
  | .agg _ | .tup _ | .undef | .any | .raw _=>false
  | _=>true
/-- A value that may be laid into cells. -/
def AV.flat:AV→Bool
  | .tup _ | .undef | .any | .raw _ | .ptag _=>false
  | _=>true
def AV.cells:AV→List AV
  | .agg cs=>cs
  | v=>[v]
/-- Cells that tell the type of their box. -/
def headTag:List AV→Bool
  | .ptag _::_=>true
  | _=>false

mutual
/-- All names of objects lie below m. -/
def AV.lt (m:Nat):AV→Bool
  | .ref id _ | .eref id _ _ | .map id | .own id _=>Nat.blt id m
  | .list _ _ _ cs | .eaddr cs | .clo _ cs | .agg cs | .tup cs=>AV.ltAll m cs
  | .iface _ v=>AV.lt m v
  | _=>true
def AV.ltAll (m:Nat):List AV→Bool
  | []=>true
  | v::vs=>AV.lt m v && AV.ltAll m vs
end

/-- Free of names. -/
def AV.pure (v:AV):Bool:=AV.lt 0 v

mutual
/-- Rows of one's own, read by value. -/
def AV.thaw (σ:List Ob):AV→Option AV
  | .own id n => match σ[id]? with
    | some (.arr n' sz cs)=>if n' = n then some (.list .ro n sz cs) else none
    | some (.fro n' sz cs)=>if n' = n then some (.list .ro n sz cs) else none
    | _=>none
  | .list k n sz cs=>match AV.thawAll σ cs with | some cs=>some (.list k n sz cs) | none=>none
  | .agg cs=>match AV.thawAll σ cs with | some cs=>some (.agg cs) | none=>none
  | .tup cs=>match AV.thawAll σ cs with | some cs=>some (.tup cs) | none=>none
  | v=>some v
def AV.thawAll (σ:List Ob):List AV→Option (List AV)
  | []=>some []
  | v :: vs => match AV.thaw σ v, AV.thawAll σ vs with
    | some v,some vs=>some (v::vs)
    | _,_=>none
end

mutual
/-- The names of the rows of one's own in a value. -/
def AV.owns:AV→List Nat
  | .own id _=>[id]
  | .list _ _ _ cs | .agg cs | .tup cs=>AV.ownsAll cs
  | _=>[]
def AV.ownsAll:List AV→List Nat
  | []=>[]
  | v::vs=>AV.owns v ++ AV.ownsAll vs
end

def nth:List AV→Nat→AV
  | [],_ => .undef
  | v::_,0=>v
  | _::l,n + 1=>nth l n
def setN:List AV→Nat→AV→List AV
  | [],_,_=>[]
  | _::l,0,v=>v::l
  | u::l,n + 1,v=>u::setN l n v
def setOb:List Ob→Nat→Ob→List Ob
  | [],_,_=>[]
  | _::l,0,v=>v::l
  | u::l,n + 1,v=>u::setOb l n v
/-- cs put over xs from place o on. -/
def overlay (xs:List AV) (o:Nat) (cs:List AV):List AV:=xs.take o ++ cs ++ xs.drop (o + cs.length)

def freezeId (ro:Nat) (σ:List Ob) (id:Nat):Option (List Ob) :=
  match σ[id]? with
  | some (.arr n sz cs)=>if ro ≤ id then some (setOb σ id (.fro n sz cs)) else none
  | some _=>some σ
  | none=>none
def freezeIds (ro:Nat):List Ob→List Nat→Option (List Ob)
  | σ,[]=>some σ
  | σ, id :: ids => match freezeId ro σ id with
    | some σ=>freezeIds ro σ ids
    | none=>none

mutual
/-- A constant, or a type's zero value. -/
def AV.ofVal:Value→Option AV
  | .int k n=>some (.int k n)
  | .bool b=>some (.bool b)
  | .string s=>some (.str s)
  | .pointer none=>some .pnil
  | .slice none 0 0=>some (.list .nil 0 0 [])
  | .map none=>some .mnil
  | .nilFunc=>some .fnil
  | .nilIface=>some .inil
  | .agg ⟨us⟩ => match AV.ofVals us with
    | some cs=>some (.agg cs)
    | none=>none
  | _=>none
def AV.ofVals:List Value→Option (List AV)
  | []=>some []
  | u :: us => match AV.ofVal u, AV.ofVals us with
    | some v,some vs=>if v.one then some (v::vs) else none
    | _,_=>none
end

structure St where
  tmps:List AV
  st:List Ob

inductive Ex where
  | normal
  | exit (id:Nat)
  | ret
  deriving DecidableEq,Inhabited

/-- How a function is called: 'call f args store ro': the result and the store behind it. -/
abbrev Caller:=FuncId→List AV→List Ob→Nat→Option (AV × List Ob)

section
variable (P:Program)

def ev (S:St):Operand→Option AV
  | .tmp t=>some (nth S.tmps t)
  | .const v=>AV.ofVal v
  | .func f=>some (.clo f [])
  | .global _=>none

def evs (S:St):List Operand→Option (List AV)
  | []=>some []
  | x :: xs => match ev S x, evs S xs with
    | some v,some vs=>some (v::vs)
    | _,_=>none

/-! ### plain operations -/
def intArith (op:BinOp) (k:IntKind) (x y:Int):Option AV :=
  match op with
  | .add=>some (.int k (k.wrap (x + y)))
  | .sub=>some (.int k (k.wrap (x - y)))
  | .mul=>some (.int k (k.wrap (x * y)))
  | .quo=>if y=0 then none else some (.int k (k.wrap (x.tdiv y)))
  | .rem=>if y=0 then none else some (.int k (x.tmod y))
  | .eql=>some (.bool (x == y))
  | .neq=>some (.bool (x != y))
  | .lss=>some (.bool (decide (x < y)))
  | .leq=>some (.bool (decide (x ≤ y)))
  | .gtr=>some (.bool (decide (x > y)))
  | .geq=>some (.bool (decide (x ≥ y)))
  | .and=>some (.int k (k.wrap (BitVec.ofInt k.bits x &&& BitVec.ofInt k.bits y).toNat))
  | .or=>some (.int k (k.wrap (BitVec.ofInt k.bits x ||| BitVec.ofInt k.bits y).toNat))
  | .xor=>some (.int k (k.wrap (BitVec.ofInt k.bits x ^^^ BitVec.ofInt k.bits y).toNat))
  | .andNot=>some (.int k (k.wrap (BitVec.ofInt k.bits x &&& ~~~BitVec.ofInt k.bits y).toNat))
  | _=>none
def strOp (op:BinOp) (x y:ByteArray):Option AV :=
  match op with
  | .add=>if ((x.size + y.size:Nat):Int) > IntKind.i64.max then none else some (.str (x ++ y))
  | .eql=>some (.bool (x.toList == y.toList))
  | .neq=>some (.bool (!(x.toList == y.toList)))
  | .lss=>some (.bool (Op.bytesLess x.toList y.toList))
  | .leq=>some (.bool (Op.bytesLess x.toList y.toList || x.toList == y.toList))
  | .gtr=>some (.bool (!(Op.bytesLess x.toList y.toList || x.toList == y.toList)))
  | .geq=>some (.bool (!Op.bytesLess x.toList y.toList))
  | _=>none
/-- Is it a pointer, a map, a slice that is nil? -/
def nilPtr:AV→Option Bool
  | .pnil=>some true
  | .ref _ _ | .eaddr _=>some false
  | _=>none
def nilMap:AV→Option Bool
  | .mnil=>some true
  | .map _=>some false
  | _=>none
def nilSl:AV→Option Bool
  | .list .nil _ _ _=>some true
  | .list _ n _ _=>if n=0 then none else some false
  | _=>none
/-- A part of a value's cells. -/
def partOf (t:TypeId) (cs:List AV) (off:Nat):Option AV :=
  match P.underlying t with
  | some (.struct _) | some (.array _ _)=>if off + P.cellsOf t ≤ cs.length then some (.agg ((cs.drop off).take (P.cellsOf t))) else none
  | some _=>cs[off]?
  | none=>none
/-- '==' of two values of type t. -/
def eqv (t:TypeId) (x y:AV):Option Bool :=
  match P.underlying t with
  | some .bool => match x, y with
    | .bool a,.bool b=>some (a == b)
    | _,_=>none
  | some (.pointer _) => match x, y with
    | .pnil,b=>nilPtr b
    | a,.pnil=>nilPtr a
    | _,_=>none
  | some (.slice _) => match nilSl x, nilSl y with
    | some true,some b=>some b
    | some a,some true=>some a
    | _,_=>none
  | some (.map _ _) => match nilMap x, nilMap y with
    | some true,some b=>some b
    | some a,some true=>some a
    | _,_=>none
  | _=>none
/-- '==' of two structs whose fields are strings, numbers, bools. -/
def eqLeaf (t:TypeId) (x y:AV):Option Bool :=
  match P.underlying t,x,y with
  | some .string,.str a,.str b=>some (a.toList == b.toList)
  | some (.int _),.int k a,.int k' b=>if k=k' then some (a == b) else none
  | some .bool,.bool a,.bool b=>some (a == b)
  | _,_,_=>none
def eqFs:List Field→List AV→List AV→Option Bool
  | [],_,_=>some true
  | f :: fs, xs, ys => if f.name = "_" then none else match partOf P f.type xs f.offset, partOf P f.type ys f.offset with
    | some x, some y => match eqLeaf P f.type x y, eqFs fs xs ys with
      | some b,some r=>some (b && r)
      | _,_=>none
    | _,_=>none
def eqs (t:TypeId) (xs ys:List AV):Option Bool :=
  match P.underlying t with
  | some (.struct fs)=>if P.stoodInHeld t=false∧P.eqGuardType P.depth t=false then eqFs P fs.toList xs ys else none
  | _=>none
def binv (op:BinOp) (t:TypeId) (x y:AV):Option AV :=
  match op,x,y with
  | .eql,.agg xs,.agg ys=>match eqs P t xs ys with | some b=>some (.bool b) | none=>none
  | .neq,.agg xs,.agg ys=>match eqs P t xs ys with | some b=>some (.bool (!b)) | none=>none
  | .shl,.int k a,.int _ b=>if b < 0 then none else some (.int k (k.wrap (a * 2 ^ (min b.toNat k.bits))))
  | .shr,.int k a,.int _ b=>if b < 0 then none else some (.int k (a.fdiv (2 ^ (min b.toNat k.bits))))
  | _,.int k a,.int k' b=>if k=k' then intArith op k a b else none
  | _,.str a,.str b=>strOp op a b
  | .eql,x,y=>match eqv P t x y with | some b=>some (.bool b) | none=>none
  | .neq,x,y=>match eqv P t x y with | some b=>some (.bool (!b)) | none=>none
  | _,_,_=>none
def unv (op:UnOp) (x:AV):Option AV :=
  match op,x with
  | .neg,.int k n=>some (.int k (k.wrap (0 - n)))
  | .xor,.int k n=>intArith .xor k (if k.signed then -1 else k.max) n
  | .not,.bool b=>some (.bool (!b))
  | _,_=>none
def convv (src dst:TypeId) (x:AV):Option AV :=
  match P.underlying src,P.underlying dst,x with
  | some (.int _),some (.int k),.int _ n=>some (.int k (k.wrap n))
  | some .string,some .string,.str s=>some (.str s)
  | _,_,_=>none
/-- The cells of a type's zero value. -/
def zerov (t:TypeId):Option AV :=
  match P.info? t with
  | some i => match i.zero with
    | some z=>AV.ofVal z
    | none=>none
  | none=>none
/-- A type whose first field points to itself and whose second one is a row of bytes: a builder of strings. -/
def selfPtr (t:TypeId):Bool :=
  match P.underlying t with
  | some (.struct ⟨[f, g]⟩) => match P.underlying f.type, P.underlying g.type with
    | some (.pointer t'),some (.slice e)=>Nat.beq t' t && (match P.underlying e with | some (.int .u8)=>true | _=>false)
    | _,_=>false
  | _=>false
/-- The cells of a new box: a builder's tell its type. -/
def tagBox (t:TypeId):List AV→List AV
  | .pnil::cs=>if selfPtr P t then .ptag t::cs else .pnil::cs
  | cs=>cs
/-- Parts laid into cells. -/
def fillv (place:Nat→Option (Nat × Nat)) (cs:List AV):List (Nat × AV)→Option (List AV)
  | []=>some cs
  | (i, v) :: rest => match place i with
    | none=>none
    | some (off,size)=>if v.flat∧v.cells.length=size∧off + size ≤ cs.length then fillv place (overlay cs off v.cells) rest else none
def buildv (t:TypeId) (parts:List (Nat × AV)):Option AV :=
  match P.underlying t,zerov P t with
  | some (.struct fs), some z => if ¬ (fs.all fun f => (P.info? f.type).isSome) then none else match fillv (fun i => match fs[i]? with | some f => some (f.offset, P.cellsOf f.type) | none => none) z.cells parts with
    | some cs=>some (.agg cs)
    | none=>none
  | some (.array _ e), some z => if ¬ (P.info? e).isSome then none else match fillv (fun i => some (i * P.cellsOf e, P.cellsOf e)) z.cells parts with
    | some cs=>some (.agg cs)
    | none=>none
  | _,_=>none
def replv (n:Nat) (cs:List AV):List AV:=match n with | 0=>[] | n + 1=>cs ++ replv n cs
def buildSlicev (t:TypeId) (len:Nat) (parts:List (Nat × AV)):Option AV :=
  match P.underlying t with
  | some (.slice e) =>
    if len * P.cellsOf e > 16777216 ∨ len > 16777216 then none else
    match zerov P e with
    | some z => if z.cells.length = P.cellsOf e then
        match fillv (fun i=>some (i * P.cellsOf e,P.cellsOf e)) (replv len z.cells) parts with
        | some cs=>some (.list .clip len (P.cellsOf e) cs)
        | none=>none
      else none
    | none=>none
  | _=>none
/-- What lies at an address: the cells from there on. -/
def cellsAt (σ:List Ob):AV→Option (List AV)
  | .ref id off => match σ[id]? with
    | some (.cells cs)=>some (cs.drop off)
    | _=>none
  | .eref id n off => match σ[id]? with
    | some (.arr n' _ cs)=>if n' = n then some (cs.drop off) else none
    | some (.fro n' _ cs)=>if n' = n then some (cs.drop off) else none
    | _=>none
  | .eaddr cs=>some cs
  | _=>none
def loadv (t:TypeId) (σ:List Ob) (a:AV):Option AV :=
  match cellsAt σ a with
  | some cs=>partOf P t cs 0
  | none=>none
def storev (t:TypeId) (σ:List Ob) (ro:Nat) (a v:AV):Option (List Ob) :=
  if v.flat ∧ v.cells.length = P.cellsOf t ∧ (P.info? t).isSome then
    match a with
    | .ref id off => match σ[id]? with
      | some (.cells cs)=>if ro ≤ id∧off + v.cells.length ≤ cs.length∧headTag v.cells=false then some (setOb σ id (.cells (overlay cs off v.cells))) else none
      | _=>none
    | .eref id n off => match σ[id]? with
      | some (.arr n' sz cs)=>if n' = n∧ro ≤ id∧off + v.cells.length ≤ cs.length∧(AV.thawAll σ v.cells).isSome∧AV.ownsAll v.cells=[] then some (setOb σ id (.arr n' sz (overlay cs off v.cells))) else none
      | _=>none
    | _=>none
  else none
def addrAdd (k:Nat):AV→Option AV
  | .ref id off=>some (.ref id (off + k))
  | .eref id n off=>some (.eref id n (off + k))
  | .eaddr cs=>if k ≤ cs.length then some (.eaddr (cs.drop k)) else none
  | _=>none
def fieldAddrv (t:TypeId) (x:AV) (f:Nat):Option AV :=
  match P.underlying t with
  | some (.struct fs) => match fs[f]? with
    | some f=>if P.cellsOf f.type=0 then none else addrAdd f.offset x
    | none=>none
  | _=>none
def fieldv (t:TypeId) (x:AV) (f:Nat):Option AV :=
  match P.underlying t,x with
  | some (.struct fs), .agg cs => match fs[f]? with
    | some f=>partOf P f.type cs f.offset
    | none=>none
  | _,_=>none
def indexAddrv (t:TypeId) (σ:List Ob) (x i:AV):Option AV :=
  match P.underlying t,x,i with
  | some (.slice e),.list _ n sz cs,.int _ j=>if 0 ≤ j∧j < n∧sz=P.cellsOf e∧(P.info? e).isSome then some (.eaddr (cs.drop (j.toNat * sz))) else none
  | some (.slice e), .own id n, .int _ j => match σ[id]? with
    | some (.arr n' sz _)=>if n' = n∧0 ≤ j∧j < n∧sz=P.cellsOf e∧(P.info? e).isSome then some (.eref id n (j.toNat * sz)) else none
    | some (.fro n' sz _)=>if n' = n∧0 ≤ j∧j < n∧sz=P.cellsOf e∧(P.info? e).isSome then some (.eref id n (j.toNat * sz)) else none
    | _=>none
  | some (.array len e),x,.int _ j=>if 0 ≤ j∧j < len∧(P.info? e).isSome then addrAdd (j.toNat * P.cellsOf e) x else none
  | _,_,_=>none
def indexv (t:TypeId) (x i:AV):Option AV :=
  match P.underlying t,x,i with
  | some .string,.str s,.int _ j=>if 0 ≤ j then match s.data[j.toNat]? with | some b=>some (.int .u8 b.toNat) | none=>none else none
  | some (.array len e),.agg cs,.int _ j=>if 0 ≤ j∧j < len then partOf P e cs (j.toNat * P.cellsOf e) else none
  | _,_,_=>none
/-- A bound of a cut: absent, or a number from 0 to top. -/
def boundv (d top:Nat):Option AV→Option Nat
  | none=>some d
  | some (.int _ i)=>if 0 ≤ i∧i ≤ top then some i.toNat else none
  | _=>none
def slicev (t:TypeId) (x:AV) (lo hi mx:Option AV):Option AV :=
  match P.underlying t,x with
  | some .string, .str s => match mx with
    | some _=>none
    | none => match boundv s.size s.size hi with
      | some h => match boundv 0 h lo with
        | some l=>some (.str (s.extract l h))
        | none=>none
      | none=>none
  | some (.slice e), .list k n sz cs =>
    if (n = 0 ∨ sz = P.cellsOf e) ∧ (P.info? e).isSome ∧ (mx.isSome → hi.isSome) then
      match boundv n n mx with
      | some m => match boundv n m hi with
        | some h => match boundv 0 h lo with
          | some l=>some (.list (if k = .nil then .nil else if (mx.isSome ∨ k = .clip)∧h=m∧m ≤ n then .clip else .ro) (h - l) sz ((cs.take (h * sz)).drop (l * sz)))
          | none=>none
        | none=>none
      | none=>none
    else none
  | _,_=>none
def lookupEs (k:AV):List (AV × AV)→Option (Option AV)
  | []=>some none
  | (k', v) :: es => match k, k' with
    | .str a,.str b=>if a=b then some (some v) else lookupEs k es
    | .int j a,.int j' b=>if j=j' then (if a=b then some (some v) else lookupEs k es) else none
    | .bool a,.bool b=>if a=b then some (some v) else lookupEs k es
    | _,_=>none
def putEs (k v:AV):List (AV × AV)→Option (List (AV × AV))
  | []=>some [(k,v)]
  | (k', v') :: es => match lookupEs k [(k', v')] with
    | some (some _)=>some ((k',v)::es)
    | some none=>match putEs k v es with | some es=>some ((k',v')::es) | none=>none
    | none=>none
def delEs (k:AV):List (AV × AV)→Option (List (AV × AV))
  | []=>some []
  | (k', v') :: es => match lookupEs k [(k', v')] with
    | some (some _)=>some es
    | some none=>match delEs k es with | some es=>some ((k',v')::es) | none=>none
    | none=>none
def isKey (kt:TypeDesc):AV→Bool
  | .str _=>match kt with | .string=>true | _=>false
  | .int k _=>match kt with | .int k' => k=k' | _=>false
  | .bool _=>match kt with | .bool=>true | _=>false
  | _=>false
def entriesOf (σ:List Ob):AV→Option (List (AV × AV))
  | .mnil=>some []
  | .map id => match σ[id]? with
    | some (.mapo es)=>some es
    | _=>none
  | _=>none
def lookupv (t:TypeId) (σ:List Ob) (m k:AV) (ok:Bool):Option AV :=
  match P.underlying t with
  | some (.map kt e) => match P.underlying kt, entriesOf σ m with
    | some kd, some es => if isKey kd k then
        match lookupEs k es with
        | some (some v)=>some (if ok then .tup [v,.bool true] else v)
        | some none => match zerov P e with
          | some z=>some (if ok then .tup [z,.bool false] else z)
          | none=>none
        | none=>none
      else none
    | _,_=>none
  | _=>none
def mapUpdatev (t:TypeId) (σ:List Ob) (ro:Nat) (m k v:AV):Option (List Ob) :=
  match P.underlying t,m with
  | some (.map kt _), .map id => match P.underlying kt, σ[id]? with
    | some kd, some (.mapo es) => if isKey kd k ∧ ro ≤ id then
        match putEs k v es with
        | some es=>some (setOb σ id (.mapo es))
        | none=>none
      else none
    | _,_=>none
  | _,_=>none
def deletev (t:TypeId) (σ:List Ob) (ro:Nat) (m k:AV):Option (List Ob) :=
  match P.underlying t,m with
  | some (.map kt _), .mnil => match P.underlying kt with
    | some kd=>if isKey kd k then some σ else none
    | none=>none
  | some (.map kt _), .map id => match P.underlying kt, σ[id]? with
    | some kd, some (.mapo es) => if isKey kd k ∧ ro ≤ id then
        match delEs k es with
        | some es=>some (setOb σ id (.mapo es))
        | none=>none
      else none
    | _,_=>none
  | _,_=>none
def extractv (x:AV) (i:Nat):Option AV :=
  match x with
  | .tup vs=>vs[i]?
  | _=>none
def lenv (t:TypeId) (σ:List Ob) (x:AV):Option AV :=
  match P.underlying t,x with
  | some .string,.str s=>some (.int .i64 s.size)
  | some (.slice _),.list _ n _ _=>some (.int .i64 n)
  | some (.slice _),.own _ n=>some (.int .i64 n)
  | some (.map _ _),.mnil=>some (.int .i64 0)
  | some (.map _ _), .map id => match σ[id]? with
    | some (.mapo es)=>some (.int .i64 es.length)
    | _=>none
  | _,_=>none
def minv2 (mx:Bool):AV→AV→Option AV
  | .int k x,.int k' y=>if k=k' then some (.int k (if mx then (if x < y then y else x) else (if y < x then y else x))) else none
  | _,_=>none
def minsv (mx:Bool):AV→List AV→Option AV
  | x,[]=>some x
  | x, y :: ys => match minv2 mx x y with
    | some z=>minsv mx z ys
    | none=>none
/-- What is appended: number of elements and cells. -/
def appended (σ:List Ob) (sz:Nat):AV→Option (Nat × List AV)
  | .list _ n sz' cs=>if n=0 then some (0,[]) else if sz' = sz then some (n,cs) else none
  | .own id n => match σ[id]? with
    | some (.arr n' sz' cs)=>if n' = n∧sz' = sz then some (n,cs) else none
    | some (.fro n' sz' cs)=>if n' = n∧sz' = sz then some (n,cs) else none
    | _=>none
  | .str s=>if sz=1 then some (s.size,s.data.toList.map fun b => .int .u8 b.toNat) else none
  | _=>none
/-- Bytes, told one by one. -/
def decB:List AV→Option (List UInt8)
  | []=>some []
  | .int .u8 k::r=>if 0 ≤ k∧k < 256 then (match decB r with | some l=>some (UInt8.ofNat k.toNat::l) | none=>none) else none
  | _=>none
def isByte (e:TypeId):Bool:=(match P.underlying e with | some (.int .u8)=>true | _=>false) && Nat.beq (P.cellsOf e) 1
/-- A new row: of bytes that are told, with its type. -/
def newOb (e:TypeId) (n sz:Nat) (cs:List AV):Ob :=
  match (if isByte P e then decB cs else none) with
  | some l => .brow e l
  | none => .arr n sz cs
def appendv (t:TypeId) (σ:List Ob) (ro:Nat) (s x:AV):Option (AV × List Ob) :=
  match P.underlying t with
  | some (.slice e) =>
    match appended σ (P.cellsOf e) x,zerov P e with
    | some (m, ys), some z =>
      if AV.ownsAll ys=[]∧z.cells.length=P.cellsOf e then
      match s with
      | .list k n sz cs =>
        if (k = .nil ∨ k = .clip) ∧ (n = 0 ∨ sz = P.cellsOf e) ∧ AV.ownsAll cs = [] ∧ (n + m) * (P.bytesOf e + 1) ≤ 140737488355328 then
          if m=0 then some (s,σ)
          else some (.own σ.length (n + m),σ ++ [newOb P e (n + m) (P.cellsOf e) (cs ++ ys)])
        else none
      | .own id n => match σ[id]? with
        | some (.brow t' l) =>
          if l.length = n ∧ ro ≤ id ∧ t' = e ∧ P.cellsOf e = 1 ∧ (n + m) * (P.bytesOf e + 1) ≤ 140737488355328 then
            if m = 0 then some (s, σ) else match decB ys with
              | some l' => some (.own id (n + m),setOb σ id (.brow t' (l ++ l')))
              | none=>none
          else none
        | some (.arr n' sz cs) =>
          if n' = n ∧ ro ≤ id ∧ sz = P.cellsOf e ∧ (n + m) * (P.bytesOf e + 1) ≤ 140737488355328 then
            if m=0 then some (s,σ) else some (.own id (n + m),setOb σ id (.arr (n + m) sz (cs ++ ys)))
          else none
        | _=>none
      | _=>none
      else none
    | _,_=>none
  | _=>none
/-- append(nil, make(n)...): that many zeros. -/
def appendZv (t t' : TypeId) (σ:List Ob) (s x:AV):Option (AV × List Ob) :=
  match P.underlying t,P.underlying t',s,x with
  | some (.slice e), some (.int _), .list .nil _ _ _, .int _ m =>
    if 0 ≤ m ∧ m.toNat * (P.bytesOf e + 1) ≤ 140737488355328 then
      match zerov P e with
      | some z => if z.cells.length = P.cellsOf e then
          if m=0 then some (s,σ) else some (.own σ.length m.toNat,σ ++ [.arr m.toNat (P.cellsOf e) (replv m.toNat z.cells)])
        else none
      | none=>none
    else none
  | _,_,_,_=>none
/-- x[:0] of a row of one's own: it is the call's own still, and empty. -/
def cutOwn (t:TypeId) (σ:List Ob) (ro:Nat) (x:AV) (lo hi mx:Option AV):Option (AV × List Ob) :=
  match x,lo,hi,mx with
  | .own id n, none, some (.int _ k), none => match P.underlying t, σ[id]? with
    | some (.slice e),some (.arr n' sz _)=>if k=0∧n' = n∧ro ≤ id∧(P.info? e).isSome then some (.own σ.length 0,setOb σ id .gone ++ [.arr 0 sz []]) else none
    | _,_=>none
  | _,_,_,_=>none
def capv (t:TypeId) (x:AV):Option AV :=
  match P.underlying t,x with
  | some (.slice _),.list .nil _ _ _=>some (.int .i64 0)
  | some (.slice _),.list .clip n _ _=>some (.int .i64 n)
  | _,_=>none
def makeSlicev (t:TypeId) (σ:List Ob) (l c:AV):Option (AV × List Ob) :=
  match P.underlying t,l,c with
  | some (.slice e), .int _ a, .int _ b =>
    if a = b ∧ 0 ≤ a ∧ a.toNat * (P.bytesOf e + 1) ≤ 140737488355328 then
      match zerov P e with
      | some z=>if z.cells.length=P.cellsOf e then some (.own σ.length a.toNat,σ ++ [.arr a.toNat (P.cellsOf e) (replv a.toNat z.cells)]) else none
      | none=>none
    else none
  | _,_,_=>none

/-! ### calls -/
structure Ext where
  pureFn:FuncId→Option (List AV→Option AV)
  stFn:FuncId→Option (List AV→List Ob→Nat→Option (AV × List Ob))
  adopt:FuncId→Bool
  dom:FuncId→Bool
  fg:FuncId→Nat→List Nat
def unfr1:AV→AV
  | .list .fresh n sz cs => .list .ro n sz cs
  | v=>v
/-- A new row is told by value. -/
def unfr:AV→AV
  | .tup (v::vs) => .tup (unfr1 v::vs)
  | v=>unfr1 v
/-- A new row becomes one's own. -/
def adopt1 (σ:List Ob):AV→AV × List Ob
  | .list .fresh n sz cs=>(.own σ.length n,σ ++ [.arr n sz cs])
  | v=>(v,σ)
def adoptv (σ:List Ob):AV→AV × List Ob
  | .tup (v::vs)=>let r:=adopt1 σ v; (.tup (r.1::vs),r.2)
  | v=>adopt1 σ v
def ltObs (m:Nat):List Ob→Bool
  | []=>true
  | .cells cs::σ | .arr _ _ cs::σ | .fro _ _ cs::σ=>AV.ltAll m cs && ltObs m σ
  | .mapo es::σ=>(es.all fun e=>AV.lt m e.1 && AV.lt m e.2) && ltObs m σ
  | .gone::σ | .brow _ _::σ=>ltObs m σ
mutual
/-- Names, set up by n. -/
def AV.up (n:Nat):AV→AV
  | .ref id off => .ref (id + n) off
  | .eref id m off => .eref (id + n) m off
  | .map id => .map (id + n)
  | .own id m => .own (id + n) m
  | .list k m sz cs => .list k m sz (AV.upAll n cs)
  | .eaddr cs => .eaddr (AV.upAll n cs)
  | .clo f cs => .clo f (AV.upAll n cs)
  | .agg cs => .agg (AV.upAll n cs)
  | .tup cs => .tup (AV.upAll n cs)
  | .iface t v => .iface t (AV.up n v)
  | v=>v
def AV.upAll (n:Nat):List AV→List AV
  | []=>[]
  | v::vs=>AV.up n v::AV.upAll n vs
end
def upEs (n:Nat):List (AV × AV)→List (AV × AV)
  | []=>[]
  | e::es=>(AV.up n e.1,AV.up n e.2)::upEs n es
def Ob.up (n:Nat):Ob→Ob
  | .cells cs => .cells (AV.upAll n cs)
  | .arr m sz cs => .arr m sz (AV.upAll n cs)
  | .fro m sz cs => .fro m sz (AV.upAll n cs)
  | .mapo es => .mapo (upEs n es)
  | .gone => .gone
  | .brow t l => .brow t l
def upObs (n:Nat):List Ob→List Ob
  | []=>[]
  | o::l=>Ob.up n o::upObs n l
/-- A result that bears names, of a call that got none: what came to be in it comes to the store. -/
def freshRes (σ:List Ob) (ro:Nat) (r:AV) (s:List Ob):Option (AV × List Ob):=match σ,ro with
  | [],0=>some (unfr r,s)
  | _,_=>some ((unfr r).up σ.length,σ ++ upObs σ.length s)
/-- A call: dr: nothing of the store may turn. -/
def callv (X:Ext) (call:Caller) (dr:Bool) (f:FuncId) (vs:List AV) (σ:List Ob) (ro:Nat):Option (AV × List Ob) :=
  match X.pureFn f with
  | some g =>
    match (if dr then (if AV.ltAll 0 vs then some (vs,σ) else none) else match AV.thawAll σ vs,freezeIds ro σ (AV.ownsAll vs) with | some vs,some σ=>some (vs,σ) | _,_=>none) with
    | some (vs, σ) => if AV.ltAll 0 vs then match g vs with
        | some r=>some (r,σ)
        | none=>none
      else none
    | none=>none
  | none => match X.stFn f with
    | some g=>if dr then none else g vs σ ro
    | none =>
      if AV.ltAll 0 vs then match call f vs [] 0 with
        | some (r,s)=>if r.pure then some (if !dr && X.adopt f then adoptv σ r else (unfr r,σ)) else if dr then none else freshRes σ ro r s
        | none=>none
      else if dr then match call f vs σ σ.length with
        | some (r,_)=>if r.lt σ.length then some (unfr r,σ) else none
        | none=>none
      else match AV.thawAll σ vs with
        | none=>none
        | some vs' => if AV.ltAll 0 vs' then match freezeIds ro σ (AV.ownsAll vs) with
            | some σ => match call f vs' [] 0 with
              | some (r,_)=>if r.pure then some (if X.adopt f then adoptv σ r else (unfr r,σ)) else none
              | none=>none
            | none=>none
          else match call f vs σ ro with
            | some (r,σ')=>if r.lt σ.length && ltObs σ.length (σ'.take σ.length) then some (unfr r,σ'.take σ.length) else some (unfr r,σ')
            | none=>none
def optEv (S:St):Option Operand→Option (Option AV)
  | none=>some none
  | some x=>match ev S x with | some v=>some (some v) | none=>none
/-- The type of both of append's arguments. -/
def appT (ts:Array TypeId):Option TypeId :=
  match ts with
  | ⟨[t,t']⟩=>if t=t' then some t else none
  | _=>none
def keep (σ:List Ob):Option AV→Option (AV × List Ob)
  | some v=>some (v,σ)
  | none=>none
def evParts (S:St):List (Nat × Operand)→Option (List (Nat × AV))
  | []=>some []
  | (i, x) :: xs => match ev S x, evParts S xs with
    | some v,some vs=>some ((i,v)::vs)
    | _,_=>none
/-- Values that go into memory that is read by value. -/
def byValue (dr : Bool) (σ : List Ob) (ro : Nat) (vs : List (Nat × AV)) : Option (List (Nat × AV) × List Ob) :=
  if AV.ownsAll (vs.map (·.2))=[] then some (vs,σ) else if dr then none else
  match AV.thawAll σ (vs.map (·.2)),freezeIds ro σ (AV.ownsAll (vs.map (·.2))) with
  | some ws,some σ=>some ((vs.map (·.1)).zip ws,σ)
  | _,_=>none
def byValue1 (dr : Bool) (σ : List Ob) (ro : Nat) (v : AV) : Option (AV × List Ob) :=
  if AV.owns v=[] then some (v,σ) else if dr then none else
  match AV.thaw σ v,freezeIds ro σ (AV.owns v) with
  | some w,some σ=>some (w,σ)
  | _,_=>none

def bsl (t:TypeId) (len:Nat) (st:List Ob) (dr:Bool) (ro:Nat) (vs:List (Nat × AV)):Option (AV × List Ob) :=
  match byValue dr st ro vs with
  | some (vs,σ)=>keep σ (buildSlicev P t len vs)
  | none=>none
def slc (t:TypeId) (st:List Ob) (dr:Bool) (ro:Nat) (x:AV) (lo hi mx:Option AV):Option (AV × List Ob) :=
  match (if dr then none else cutOwn P t st ro x lo hi mx) with
  | some r=>some r
  | none => match byValue1 dr st ro x with
    | some (x,σ)=>keep σ (slicev P t x lo hi mx)
    | none=>none
def evOp (X:Ext) (call:Caller) (dr:Bool) (ro:Nat) (S:St) (o:Oper):Option (AV × List Ob) :=
  match o.op with
  | .move x | .assign x=>keep S.st (ev S x)
  | .pick c a b => match ev S c, ev S a, ev S b with
    | some (.bool t),some a,some b=>some (if t then a else b,S.st)
    | _,_,_=>none
  | .binOp op t x y _ => match ev S x, ev S y with
    | some x,some y=>keep S.st (binv P op t x y)
    | _,_=>none
  | .unOp op _ x => match ev S x with
    | some x=>keep S.st (unv op x)
    | none=>none
  | .convert s d x => match ev S x with
    | some x=>keep S.st (convv P s d x)
    | none=>none
  | .alloc t => if dr then none else match zerov P t with
    | some z=>if headTag z.cells then none else some (.ref S.st.length 0,S.st ++ [.cells (tagBox P t z.cells)])
    | none=>none
  | .box _ x => if dr then none else match ev S x with
    | some v=>if v.flat∧headTag v.cells=false then some (.ref S.st.length 0,S.st ++ [.cells v.cells]) else none
    | none=>none
  | .build t ps => match evParts S ps.toList with
    | some vs=>keep S.st (buildv P t vs)
    | none=>none
  | .buildSlice t len ps => match evParts S ps.toList with
    | some vs=>bsl P t len S.st dr ro vs
    | none=>none
  | .load t a => match ev S a with
    | some a=>keep S.st (loadv P t S.st a)
    | none=>none
  | .store t a x => if dr then none else match ev S a, ev S x with
    | some a, some x => match storev P t S.st ro a x with
      | some σ=>some (.undef,σ)
      | none=>none
    | _,_=>none
  | .nilCheck x => match ev S x with
    | some v => match v with
      | .ref _ _ | .eaddr _ | .clo _ _=>some (v,S.st)
      | _=>none
    | none=>none
  | .makeFunc fn first caps => match fn, first.toList, evs S caps.toList with
    | .func f,[],some vs=>some (.clo f vs,S.st)
    | _,_,_=>none
  | .makeMap t r => match r with
    | none=>if dr then none else some (.map S.st.length,S.st ++ [.mapo []])
    | some x => if dr then none else match P.underlying t, ev S x with
      | some (.map _ _),some (.int _ _)=>some (.map S.st.length,S.st ++ [.mapo []])
      | _,_=>none
  | .makeSlice t l c => if dr then none else match ev S l, ev S c with
    | some l,some c=>makeSlicev P t S.st l c
    | _,_=>none
  | .slice t x lo hi mx => match ev S x, optEv S lo, optEv S hi, optEv S mx with
    | some x,some lo,some hi,some mx=>slc P t S.st dr ro x lo hi mx
    | _,_,_,_=>none
  | .fieldAddr t x f => match ev S x with
    | some x=>keep S.st (fieldAddrv P t x f)
    | none=>none
  | .field t x f => match ev S x with
    | some x=>keep S.st (fieldv P t x f)
    | none=>none
  | .indexAddr t x i => match ev S x, ev S i with
    | some x,some i=>keep S.st (indexAddrv P t S.st x i)
    | _,_=>none
  | .index t x i => match ev S x, ev S i with
    | some x,some i=>keep S.st (indexv P t x i)
    | _,_=>none
  | .lookup t m k ok => match ev S m, ev S k with
    | some m,some k=>keep S.st (lookupv P t S.st m k ok)
    | _,_=>none
  | .mapUpdate t m k x => if dr then none else match ev S m, ev S k, ev S x with
    | some m, some k, some x => match mapUpdatev P t S.st ro m k x with
      | some σ=>some (.undef,σ)
      | none=>none
    | _,_,_=>none
  | .extract x i => match ev S x with
    | some x=>keep S.st (extractv x i)
    | none=>none
  | .call c => match c.callee with
    | .builtin b => match b, evs S c.args.toList with
      | .len, some [x] => match c.argTypes[0]? with
        | some t=>keep S.st (lenv P t S.st x)
        | none=>none
      | .cap, some [x] => match c.argTypes[0]? with
        | some t=>keep S.st (capv P t x)
        | none=>none
      | .append, some [s, x] => if dr then none else match appT c.argTypes with
        | some t=>appendv P t S.st ro s x
        | none => match c.argTypes with
          | ⟨[t, t']⟩ => match P.underlying t' with
            | some .string=>appendv P t S.st ro s x
            | _=>appendZv P t t' S.st s x
          | _=>none
      | .delete, some [m, k] => if dr then none else match c.argTypes[0]? with
        | some t => match deletev P t S.st ro m k with
          | some σ=>some (.tup [],σ)
          | none=>none
        | none=>none
      | .min,some (x::xs)=>keep S.st (minsv false x xs)
      | .max,some (x::xs)=>keep S.st (minsv true x xs)
      | _,_=>none
    | .value g => match ev S g, evs S c.args.toList with
      | some (.clo f caps),some vs=>callv X call dr f (vs ++ caps) S.st ro
      | _,_=>none
    | .invoke _ _=>none
  | _=>none

/-! ### code -/
def putSlot (S:St) (d:Option Tmp) (v:AV) (σ:List Ob):St :=
  match d with
  | some t => { tmps:=setN S.tmps t v,st:=σ }
  | none => { S with st:=σ }
/-- Is the operation wanted? -/
def wantedv (ops:Array Oper) (S:St) (o:Oper):Option Bool :=
  match o.guard with
  | none=>some true
  | some (j, want) => match (ops[j]?).bind (·.dst) with
    | none=>none
    | some t => match nth S.tmps t with
      | .bool b=>some (b == want)
      | .undef=>some false
      | _=>none
def vops (X:Ext) (call:Caller) (dr:Bool) (ro:Nat) (ops:Array Oper):List Oper→St→Option St
  | [],S=>some S
  | o :: rest, S => match wantedv ops S o with
    | some true => match evOp P X call dr ro S o with
      | some (v,σ)=>vops X call dr ro ops rest (putSlot S o.dst v (if dr then S.st else σ))
      | none=>none
    | some false=>vops X call dr ro ops rest (putSlot S o.dst .undef S.st)
    | none=>none
/-! ### regions whose order is drawn, in which rows grow: the operations that make memory wait for each other -/
/-- The same, nothing known but by calls. -/
def bareX (X:Ext):Ext := { X with pureFn:=fun _=>none,stFn:=fun _=>none }
def memL (t:Nat):List Nat→Bool
  | []=>false
  | x::xs=>if Nat.beq t x then true else memL t xs
/-- Does it make memory? L: the functions whose new row is taken over. -/
def isEff (L:List Nat) (o:Oper):Bool:=match o.op with
  | .mapUpdate _ _ _ _=>memL 1000000 L
  | .call c => match c.callee with
    | .builtin .append=>true
    | .value (.func f)=>memL f L
    | _=>false
  | .box _ _ | .alloc _=>true
  | .store _ _ _=>memL 1000002 L
  | _=>false
/-- Nothing that lay there before turns. -/
def effOk (L:List Nat) (n0:Nat) (S:St) (o:Oper):Bool:=if memL 1000000 L then true else match o.op with
  | .call c => match c.callee with
    | .value _=>true
    | _ => match evs S c.args.toList with
      | some [.list _ _ _ _,_]=>true
      | some [.own id _,_]=>Nat.ble n0 id
      | _=>false
  | .store _ a _ => match ev S a with
    | some (.ref id _)=>Nat.ble n0 id
    | _=>false
  | _=>true
def call0 (call:Caller):Caller:=fun f vs _ _=>if AV.ltAll 0 vs then call f vs [] 0 else none
def edgeTo (o:Oper) (i:Nat):Bool:=o.after.toList.any fun e=>Region.binds .any e && e.on == i
/-- Each waits for the one before it: p: the last so far. -/
def effEdges (L:List Nat):List (Oper × Nat)→Option Nat→Bool
  | [],_=>true
  | (o,j)::l,p=>if isEff L o then (match p with | some i=>edgeTo o i | none=>true) && effEdges L l (some j) else effEdges L l p
def effChain (L:List Nat) (ops:Array Oper):Bool:=ops.toList.any (isEff L) && effEdges L ops.toList.zipIdx none
/-- A call whose new row is taken over. -/
def callE (X:Ext) (call:Caller) (f:FuncId) (vs:List AV) (σ:List Ob):Option (AV × List Ob) :=
  if AV.ltAll 0 vs then match call f vs [] 0 with
    | some (r,_)=>if r.pure then some (if X.adopt f then adoptv σ r else (unfr r,σ)) else none
    | none=>none
  else none
def calleeF (o:Oper):Option (FuncId × Array Operand):=match o.op with
  | .call c => match c.callee with
    | .value (.func f)=>some (f,c.args)
    | _=>none
  | _=>none
def evE (X:Ext) (call:Caller) (ro:Nat) (L:List Nat) (S:St) (o:Oper):Option (AV × List Ob) :=
  match memL 1000001 L && memL 1000000 L with
  | true=>evOp P (bareX X) call false ro S o
  | false => match calleeF o with
    | some (f, xs) => match evs S xs.toList with
      | some vs=>callE X call f vs S.st
      | none=>none
    | none=>evOp P (bareX X) call false ro S o
def memN (t:Nat):List Nat→Bool
  | []=>false
  | x::xs=>if Nat.beq t x then true else memN t xs
def edgesOf (ops:Array Oper) (j:Nat):List Nat:=match ops[j]? with
  | some o=>o.after.toList.filterMap fun e=>if Region.binds .any e then some e.on else none
  | none=>[]
/-- Is j among what is waited for, by way of others too? -/
def waits (ops:Array Oper) (j:Nat):Nat→List Nat→Bool
  | 0,_=>false
  | i + 1,ms=>if memN i ms then i == j || waits ops j i (edgesOf ops i ++ ms) else waits ops j i ms
/-- Where what lay there turns (L bears 1000000): is the operation one that the first of the operations that turn memory waits for? -/
def early (L:List Nat) (ops:Array Oper) (j:Nat):Bool:=match ops.toList.findIdx? (isEff L) with
  | some e=>waits ops j e (edgesOf ops e)
  | none=>true
def dstAt (ops:Array Oper) (d:Option Tmp):Nat:=(ops.toList.findIdx? fun o=>o.dst == d).getD ops.size
/-- What an operation that only reads may see. -/
def sees (L:List Nat) (ops:Array Oper) (σ0:List Ob) (o:Oper):List Ob:=if memL 1000000 L then (match o.op with
    | .lookup _ _ _ _ | .load _ _ | .indexAddr _ _ _=>if o.dst.isSome && early L ops (dstAt ops o.dst) then σ0 else []
    | _=>[]) else σ0
def vopm (X:Ext) (call:Caller) (ro:Nat) (L:List Nat) (ops:Array Oper) (σ0:List Ob):List Oper→St→Option St
  | [],S=>some S
  | o :: rest, S => match wantedv ops S o with
    | some true => match isEff L o with
      | true => match effOk L σ0.length S o with
        | true => match evE P X call ro L S o with
          | some (v,σ)=>vopm X call ro L ops σ0 rest (putSlot S o.dst v σ)
          | none=>none
        | false=>none
      | false => match evOp P X (call0 call) true ro ⟨S.tmps, sees L ops σ0 o⟩ o with
        | some (v,_)=>vopm X call ro L ops σ0 rest (putSlot S o.dst v S.st)
        | none=>none
    | some false=>vopm X call ro L ops σ0 rest (putSlot S o.dst .undef S.st)
    | none=>none
/-- All below i are waited for, or are among the marked. -/
def cover (ops:Array Oper):Nat→List Nat→Bool
  | 0,_=>true
  | i + 1,ms=>memN i ms && cover ops i (edgesOf ops i ++ ms)
/-- From m on each operation waits for all that stand ahead of it. -/
def tailOk (ops:Array Oper) (m:Nat):Bool:=(List.range ops.size).all fun j=>Nat.blt j m || cover ops j (edgesOf ops j)
/-- A drawn region whose last operations come last: from which on (L = [7000000 + m]). -/
def tailL:List Nat→Option Nat
  | [k]=>if Nat.ble 7000000 k then some (k - 7000000) else none
  | _=>none
def vreg (X:Ext) (call:Caller) (dr:Bool) (ro:Nat) (L:List Nat) (ops:Array Oper) (S:St):Option St :=
  match tailL L with
  | some m => match dr && tailOk ops m && Nat.ble m ops.size with
    | true => match vops P X call true ro ops (ops.toList.take m) S with
      | some S1=>vops P X call false ro ops (ops.toList.drop m) S1
      | none=>none
    | false=>none
  | none => match dr && effChain L ops with
    | true=>vopm P X call ro L ops S.st ops.toList S
    | false=>vops P X call dr ro ops ops.toList S
/-- Rows of one's own that are read by value from now on. -/
def settle (ro:Nat):List Nat→St→Option St
  | [],S=>some S
  | t :: ts, S => match byValue1 false S.st ro (nth S.tmps t) with
    | some (v,σ)=>settle ro ts ⟨setN S.tmps t v,σ⟩
    | none=>none
/-! ### what a round of a loop forgets -/
def opndT:Operand→List Nat
  | .tmp t=>[t]
  | _=>[]
def opndsT:List Operand→List Nat
  | []=>[]
  | x::xs=>opndT x ++ opndsT xs
/-- What is read, and what is written before it is read, in the text's order. -/
def deadOps (ops:Array Oper):List Oper→List Nat × List Nat→List Nat × List Nat
  | [],r=>r
  | o :: l, (R, D) =>
    let R' := opndsT o.op.operands.toList ++ R
    match o.dst with
    | some t=>deadOps ops l (R',if memN t R' then D else t::D)
    | none=>deadOps ops l (R',D)
def deadC:Code→List Nat × List Nat→List Nat × List Nat
  | .region _ ops _,r=>deadOps ops ops.toList r
  | .seq a b,r=>deadC b (deadC a r)
  | .cond c a b,(R,D)=>deadC b (deadC a (opndT c ++ R,D))
  | .block _ a,r=>deadC a r
  | .loop a,r=>deadC a r
  | _,r=>r
/-- The first region's number: loops are known by it. -/
def firstReg:Code→Nat
  | .region id _ _=>id
  | .seq a _=>firstReg a
  | .cond _ a _=>firstReg a
  | .block _ a=>firstReg a
  | .loop a=>firstReg a
  | _=>0
def dropK (k:List Nat):List Nat→List Nat
  | []=>[]
  | t::l=>if memN t k then dropK k l else t::dropK k l
/-- What a round forgets: fg (1000 + the loop's first region): the slots that it is to keep. -/
def deadK (fg:Nat→List Nat) (a:Code):List Nat:=dropK (fg (1000 + firstReg a)) (deadC a ([],[])).2
def forgetT:List Nat→List AV→List AV
  | [],l=>l
  | t::ts,l=>forgetT ts (setN l t .any)
def forget (ts:List Nat) (S:St):St := { S with tmps:=forgetT ts S.tmps }
def iter (f:St→Option (Ex × St)):Nat→St→Option (Ex × St)
  | 0,_=>none
  | n + 1, S => match f S with
    | some (.normal,S')=>iter f n S'
    | r=>r
/-- Only the first m objects stay. -/
def trim (m:Nat) (S:St):Option St:=if AV.ltAll m S.tmps && ltObs m (S.st.take m) then some ⟨S.tmps,S.st.take m⟩ else none
/-- A region's end. -/
def fin (ro:Nat) (ts fs ms:List Nat) (m:Nat) (S:St):Option St :=
  match settle ro ts S with
  | some S => match ms with
    | []=>some (forget fs S)
    | _::_=>trim m (forget fs S)
  | none=>none
/-- A region that ends in 'alloc; ..; store' (moves alone between): what is stored is read by value at once (fg (5000 + region) not empty). -/
def isAlloc (o:Oper):Bool:=match o.op with
  | .alloc _=>true
  | _=>false
def splitLast:List Oper→Option (List Oper × Oper)
  | []=>none
  | [b]=>some ([],b)
  | o :: l => match splitLast l with
    | some (ms,b)=>some (o::ms,b)
    | none=>none
def splitBox:List Oper→Option (List Oper × Oper × List Oper × Oper)
  | []=>none
  | o :: l => match isAlloc o with
    | true => match splitLast l with
      | some (ms,b)=>some ([],o,ms,b)
      | none=>none
    | false => match splitBox l with
      | some (pre,a,ms,b)=>some (o::pre,a,ms,b)
      | none=>none
def isTmp (d:Tmp):Operand→Bool
  | .tmp t=>Nat.beq t d
  | _=>false
def boxOps (a b:Oper):Option (TypeId × Tmp × Operand) :=
  match a.op,a.dst,a.guard,b.op,b.dst,b.guard with
  | .alloc t,some d,none,.store t' y x,none,none=>if t=t' ∧ isTmp d y=true∧isTmp d x=false then some (t,d,x) else none
  | _,_,_,_,_,_=>none
def midOk (d:Tmp) (o:Oper):Option (Tmp × Operand) :=
  match o.op,o.dst,o.guard with
  | .assign x,some e,none=>if Nat.beq e d=false∧isTmp d x=false then some (e,x) else none
  | .move x,some e,none=>if Nat.beq e d=false∧isTmp d x=false then some (e,x) else none
  | _,_,_=>none
def midv (d:Tmp):List Oper→St→Option St
  | [],S=>some S
  | o :: l, S => match midOk d o with
    | some (e, x) => match ev S x with
      | some v=>midv d l ⟨setN S.tmps e v,S.st⟩
      | none=>none
    | none=>none
def vboxv (S:St) (t:TypeId) (d:Tmp) (x:Operand):Option St :=
  match ev S x,zerov P t with
  | some v,some z=>if v.flat∧v.cells.length=P.cellsOf t∧z.cells.length=P.cellsOf t∧(P.info? t).isSome∧d < S.tmps.length∧headTag v.cells=false∧headTag z.cells=false∧selfPtr P t=false then some ⟨setN S.tmps d (.eaddr v.cells),S.st⟩ else none
  | _,_=>none
def vbox (X:Ext) (call:Caller) (ro:Nat) (ops:Array Oper) (S:St):Option St :=
  match splitBox ops.toList with
  | some (pre, a, ms, b) => match boxOps a b with
    | some (t, d, x) => match vops P X call false ro ops pre S with
      | some S1 => match midv d ms S1 with
        | some S2=>vboxv P S2 t d x
        | none=>none
      | none=>none
    | none=>none
  | none=>none
def vexec (X:Ext) (call:Caller) (lf:Nat) (ro:Nat) (fg:Nat→List Nat):Code→St→Option (Ex × St)
  | .skip,S=>some (.normal,S)
  | .region id ops dr, S => match fg (5000 + id) with
    | [] => match vreg P X call dr ro (fg (2000 + id)) ops S with
      | some S1 => match fin ro (fg (3000 + id)) (fg id) (fg (4000 + id)) S.st.length S1 with
        | some S2=>some (.normal,S2)
        | none=>none
      | none=>none
    | _ :: _ => match dr with
      | true=>none
      | false => match vbox P X call ro ops S with
        | some S1=>some (.normal,forget (fg id) S1)
        | none=>none
  | .seq a b, S => match vexec X call lf ro fg a S with
    | some (.normal,S)=>vexec X call lf ro fg b S
    | r=>r
  | .cond c a b, S => match ev S c with
    | some (.bool true)=>vexec X call lf ro fg a S
    | some (.bool false)=>vexec X call lf ro fg b S
    | _=>none
  | .block id a, S => match vexec X call lf ro fg a S with
    | some (.exit id',S)=>if id' = id then some (.normal,S) else some (.exit id',S)
    | r=>r
  | .loop a,S=>iter (fun S=>vexec X call lf ro fg a (forget (deadK fg a) S)) lf S
  | .exit id,S=>some (.exit id,S)
  | .ret,S=>some (.ret,S)
  | _,_=>none
/-- The results. -/
def resultv (S:St):ResultVar→Option AV
  | .tmp t=>some (nth S.tmps t)
  | .cell a t=>loadv P t S.st (nth S.tmps a)
def resultsv (S:St):List ResultVar→Option (List AV)
  | []=>some []
  | r :: rs => match resultv P S r, resultsv S rs with
    | some v,some vs=>some (v::vs)
    | _,_=>none
def oneOf:List AV→AV
  | [v]=>v
  | vs => .tup vs
/-- The result: the first is told as new, if it is a row that is still the call's own and no other result holds it. -/
def resOf (σ0 σ:List Ob) (rs ws:List AV):AV :=
  match σ0,rs,ws with
  | [], .own id n :: rs', .list _ _ sz cs :: ws' => match σ[id]? with
    | some (.arr _ _ _)=>if AV.ownsAll rs' = [] then oneOf (.list .fresh n sz cs::ws') else unfr (oneOf ws)
    | _=>unfr (oneOf ws)
  | _,_,_=>unfr (oneOf ws)
def vend1 (σ0:List Ob) (ro:Nat) (st:List Ob) (rs:List AV):Option (AV × List Ob) :=
  match AV.thawAll st rs,freezeIds ro st (AV.ownsAll rs) with
  | some ws,some σ=>some (resOf σ0 st rs ws,σ)
  | _,_=>none
def vend (fn:Func) (σ0:List Ob) (ro:Nat) (S:St):Option (AV × List Ob) :=
  match resultsv P S fn.results.toList with
  | some rs=>vend1 σ0 ro S.st rs
  | none=>none
def vbody (X:Ext) (call:Caller) (lf:Nat) (fg:Nat→List Nat) (fn:Func) (c:Code) (vs:List AV) (σ:List Ob) (ro:Nat):Option (AV × List Ob) :=
  match vexec P X call lf ro fg c { tmps:=vs ++ List.replicate (fn.ntmps - vs.length) .undef,st:=σ } with
  | some (.normal,S) | some (.ret,S)=>vend P fn σ ro S
  | _=>none
end
end Go.Vm
end
/- What an abstract value says of a value in a world, and that it goes on saying so while only the call's own objects turn. -/
section
namespace Go.Vm
open Go.RowKit (Below)

/-- σ: the objects; φ: the block of each; κ: the capacity of each row; forb: blocks that nothing told by value reads. -/
structure Ctx where
  σ:List Ob
  φ:Nat→Nat
  κ:Nat→Nat
  forb:Nat→Prop

def Ob.live:Ob→Prop
  | .cells _ | .arr _ _ _ | .mapo _ | .brow _ _=>True
  | _=>False

/-- A block that may be written: nothing that is told by value reads it. -/
def Mut (C:Ctx) (b:Nat):Prop:=C.forb b ∨ ∃ id o,C.σ[id]? = some o∧o.live∧C.φ id=b

/-- What a handle of length n of object id says of the row's place. -/
def RowIs (C:Ctx) (id n:Nat) (p:Nat→Nat→Prop):Prop :=
  match C.σ[id]? with
  | some (.arr n' _ _)=>n ≤ n' ∧ (n=n' → p (C.φ id) (C.κ id))
  | some (.fro n' _ _)=>n ≤ n' ∧ (n=n' → p (C.φ id) (C.κ id))
  | some (.brow _ l)=>n ≤ l.length∧(n=l.length→p (C.φ id) (C.κ id))
  | some .gone=>True
  | _=>False

def allOne:List AV→Prop
  | []=>True
  | v::vs=>v.one=true∧allOne vs

/-- The cells of block b from o on hold us. -/
def Holds (w:World) (b o:Nat) (us:List Value):Prop:=∀ i x,us[i]? = some x→w.cell? ⟨b,o + i,none⟩=some x

mutual
def Rep (C:Ctx) (w:World):AV→Value→Prop
  | .int k n,u=>u = .int k n
  | .bool b,u=>u = .bool b
  | .str s,u=>u = .string s
  | .pnil,u=>u = .pointer none
  | .mnil,u=>u = .map none
  | .fnil,u=>u = .nilFunc
  | .inil,u=>u = .nilIface
  | .undef,u=>u=Go.undef
  | .raw v,u=>u=v
  | .ptag _,u=>u = .pointer none
  | .any,_=>True
  | .ref id off,u=>(∃ cs,C.σ[id]? = some (.cells cs))∧u = .pointer (some ⟨C.φ id,off,none⟩)
  | .eref id n off,u=>(∃ b o,u = .pointer (some ⟨b,o,none⟩))∧RowIs C id n (fun b _=>u = .pointer (some ⟨b,off,none⟩))
  | .map id,u=>(∃ es,C.σ[id]? = some (.mapo es))∧u = .map (some (C.φ id))
  | .own id n,u=>(∃ a c,u = .slice a n c)∧RowIs C id n (fun b c=>u = .slice (some ⟨b,0,none⟩) n c)
  | .list k n sz cs, u => cs.length = n * sz ∧ allOne cs ∧ ∃ a cap, u = .slice a n cap ∧ n ≤ cap ∧ cap ≤ maxLen ∧ (k = .clip → cap = n) ∧ (k = .nil → a = none ∧ cap = 0) ∧
      (0 < n→∃ b o us,a=some ⟨b,o,none⟩∧b < w.heap.size ∧ ¬ Mut C b∧Holds w b o us∧RepAll C w cs us)
  | .eaddr cs,u=>allOne cs∧∃ b o us,u = .pointer (some ⟨b,o,none⟩)∧b < w.heap.size ∧ ¬ Mut C b∧Holds w b o us∧RepAll C w cs us
  | .clo f caps,u=>∃ us,u = .func (.func f) #[] us.toArray∧RepAll C w caps us
  | .agg cs,u=>allOne cs∧∃ us,u = .agg us.toArray∧RepAll C w cs us
  | .tup vs,u=>∃ us,u = .tuple us.toArray∧RepAll C w vs us
  | .iface t v,u=>∃ x,u = .iface t x∧Rep C w v x
def RepAll (C:Ctx) (w:World):List AV→List Value→Prop
  | [],[]=>True
  | v::vs,u::us=>Rep C w v u∧RepAll C w vs us
  | _,_=>False
end

def RepEs (C:Ctx) (w:World):List (AV × AV)→List MapEntry→Prop
  | [],[]=>True
  | e::es,m::ms=>(e.1.one=true∧Rep C w e.1 m.key)∧Rep C w e.2 m.val∧RepEs C w es ms
  | _,_=>False

/-- Each entry has a stamp of its own, below the clock. -/
def Stamped (ms:List MapEntry) (clock:Nat):Prop:=(∀ e ∈ ms,e.born < clock)∧(ms.map (·.born)).Nodup
/-- The tag tells the type. -/
def TagOk (e:TypeId):List AV→Prop
  | .ptag t::_=>e=t
  | _=>True
def valB (b:UInt8):Value := .int .u8 b.toNat
/-- What an object says of its block. -/
def ObOk (C:Ctx) (w:World) (b cap:Nat):Ob→Prop
  | .cells cs=>allOne cs∧∃ us e,w.heap[b]? = some (.cells us.toArray e (0,0))∧TagOk e cs∧RepAll C w cs us
  | .arr n sz cs=>cs.length=n * sz∧allOne cs∧n ≤ cap∧cap ≤ maxLen∧∃ us vs e,w.heap[b]? = some (.cells (us ++ vs).toArray e (0,0))∧us.length + vs.length=cap * sz∧RepAll C w cs us
  | .fro n sz cs=>cs.length=n * sz∧allOne cs∧n ≤ cap∧cap ≤ maxLen∧b < w.heap.size ∧ ¬ Mut C b∧∃ us,Holds w b 0 us∧RepAll C w cs us
  | .mapo es=>∃ ms clock,w.heap[b]? = some (.map ms clock)∧Stamped ms.toList clock∧RepEs C w es ms.toList
  | .gone=>True
  | .brow t l=>l.length ≤ cap∧cap ≤ maxLen∧∃ vs:List Value,w.heap[b]? = some (.cells ((l.map valB) ++ vs).toArray t (0,0))∧l.length + vs.length=cap

/-- Blocks that hold what they hold all along: package-level variables. -/
class Fixed where
  fix:Nat→Obj→Prop
variable [Fixed]

structure SOk (C:Ctx) (w:World):Prop where
  blk:∀ id o,C.σ[id]? = some o→o.live→C.φ id < w.heap.size
  inj:∀ i j oi oj,C.σ[i]? = some oi→oi.live→C.σ[j]? = some oj→oj.live→C.φ i=C.φ j→i=j
  ob:∀ id o,C.σ[id]? = some o→ObOk C w (C.φ id) (C.κ id) o
  nof:∀ id o,C.σ[id]? = some o→o.live → ¬ C.forb (C.φ id)
  fb:∀ b,C.forb b→b < w.heap.size
  fx:∀ b X,Fixed.fix b X→w.heap[b]? = some X∧∀ id o,C.σ[id]? = some o→o.live→C.φ id ≠ b

/-- How an object may turn. -/
def Turn (o o' : Ob) (same:Prop):Prop :=
  match o with
  | .cells cs=>(∃ cs',o' = .cells cs' ∧ cs'.length=cs.length)∧same
  | .mapo _=>(∃ es,o' = .mapo es)∧same
  | .arr n _ _=>(∃ n' sz cs,(o' = .arr n' sz cs ∨ o' = .fro n' sz cs)∧n ≤ n' ∧ (n=n' → same)) ∨ o' = .gone
  | .fro n sz cs=>(o' = .fro n sz cs∧same) ∨ o' = .gone
  | .gone=>o' = .gone
  | .brow t l=>(∃ l',o' = .brow t l' ∧ l.length ≤ l'.length∧(l.length=l'.length→same)) ∨ o' = .gone

/-- From one state of the store to a later one; the objects below ro are as they were. -/
structure Grow (ro:Nat) (C:Ctx) (w:World) (C' : Ctx) (w' : World):Prop where
  os:w'.os=w.os
  tape:w'.tape=w.tape
  output:w'.output=w.output
  size:w.heap.size ≤ w'.heap.size
  forb:C'.forb=C.forb
  blk:∀ b,b < w.heap.size→(∀ id o,ro ≤ id→C.σ[id]? = some o→o.live→C.φ id ≠ b)→w'.heap[b]? = w.heap[b]?
  may:∀ b,b < w.heap.size→Mut C' b→Mut C b
  turn:∀ id o,C.σ[id]? = some o→∃ o',C'.σ[id]? = some o' ∧ Turn o o' (C'.φ id=C.φ id∧C'.κ id=C.κ id)
  low:∀ id,id < ro→C'.σ[id]? = C.σ[id]? ∧ C'.φ id=C.φ id∧C'.κ id=C.κ id

theorem Grow.len {ro:Nat} {C C' : Ctx} {w w' : World} (h:Grow ro C w C' w'):C.σ.length ≤ C'.σ.length:=by
  by_cases h0:C.σ.length=0
  · omega
  · have hl : C.σ.length - 1 < C.σ.length := by omega
    obtain ⟨o',h1,_⟩:=h.turn (C.σ.length - 1) _ (List.getElem?_eq_getElem hl)
    have:=(List.getElem?_eq_some_iff.1 h1).1
    omega
theorem Turn.refl (o:Ob) {p:Prop} (hp:p):Turn o o p:=by
  cases o <;> simp [Turn,hp]
theorem Grow.refl (ro:Nat) (C:Ctx) (w:World):Grow ro C w C w :=
  ⟨rfl,rfl,rfl,Nat.le_refl _,rfl,fun _ _ _=>rfl,fun _ _ h=>h,fun _ o h=>⟨o,h,Turn.refl o ⟨rfl,rfl⟩⟩,fun _ _=>⟨rfl,rfl,rfl⟩⟩
theorem Turn.trans {o o' o'' : Ob} {p q r:Prop} (h:Turn o o' p) (k:Turn o' o'' q) (hr:p→q→r):Turn o o'' r:=by
  cases o with
  | cells cs=>obtain ⟨⟨cs',rfl,h1⟩,hp⟩:=h; obtain ⟨⟨cs'',rfl,h2⟩,hq⟩:=k; exact ⟨⟨cs'',rfl,h2.trans h1⟩,hr hp hq⟩
  | mapo es=>obtain ⟨⟨es',rfl⟩,hp⟩:=h; obtain ⟨⟨es'',rfl⟩,hq⟩:=k; exact ⟨⟨es'',rfl⟩,hr hp hq⟩
  | gone=>cases h; exact k
  | brow t l =>
    rcases h with ⟨l',rfl,hn,hs⟩ | rfl
    · rcases k with ⟨l'', rfl, hn2, hs2⟩ | rfl
      · exact .inl ⟨l'',rfl,by omega,fun e=>hr (hs (by omega)) (hs2 (by omega))⟩
      · exact .inr rfl
    · cases k; exact .inr rfl
  | fro n sz cs =>
    rcases h with ⟨rfl,hp⟩ | rfl
    · rcases k with ⟨rfl, hq⟩ | rfl
      · exact .inl ⟨rfl,hr hp hq⟩
      · exact .inr rfl
    · cases k; exact .inr rfl
  | arr n sz cs =>
    rcases h with ⟨n',sz',cs',h1,hn,hs⟩ | rfl
    · rcases h1 with rfl | rfl
      · rcases k with ⟨n'', sz'', cs'', h2, hn2, hs2⟩ | rfl
        · exact .inl ⟨n'',sz'',cs'',h2,by omega,fun e=>hr (hs (by omega)) (hs2 (by omega))⟩
        · exact .inr rfl
      · rcases k with ⟨rfl, hq⟩ | rfl
        · exact .inl ⟨n',sz',cs',.inr rfl,hn,fun e=>hr (hs e) hq⟩
        · exact .inr rfl
    · cases k; exact .inr rfl

theorem RowIs.mono {C C' : Ctx} {id n:Nat} {p:Nat→Nat→Prop} (ht:∀ o,C.σ[id]? = some o→∃ o',C'.σ[id]? = some o' ∧ Turn o o' (C'.φ id=C.φ id∧C'.κ id=C.κ id))
    (h:RowIs C id n p):RowIs C' id n p:=by
  unfold RowIs at h ⊢
  cases ho:C.σ[id]? with
  | none=>rw [ho] at h; exact h.elim
  | some o =>
    rw [ho] at h
    obtain ⟨o',h1,h2⟩:=ht o ho
    rw [h1]
    cases o with
    | cells cs=>exact h.elim
    | mapo es=>exact h.elim
    | gone=>cases h2; trivial
    | brow t l =>
      simp only at h
      rcases h2 with ⟨l',rfl,hn,hs⟩ | rfl
      · refine ⟨by omega, fun e => ?_⟩
        obtain ⟨e1,e2⟩:=hs (by omega)
        rw [e1,e2]
        exact h.2 (by omega)
      · trivial
    | fro n' sz cs =>
      rcases h2 with ⟨rfl,e1,e2⟩ | rfl
      · simp only at h ⊢
        rw [e1,e2]
        exact h
      · trivial
    | arr n' sz cs =>
      simp only at h
      rcases h2 with ⟨n'',sz'',cs'',h3,hn,hs⟩ | rfl
      · rcases h3 with rfl | rfl <;> refine ⟨by omega, fun e => ?_⟩ <;>
        · obtain ⟨e1, e2⟩ := hs (by omega)
          rw [e1,e2]
          exact h.2 (by omega)
      · trivial

/-- What may turn while what is told by value stays. -/
structure Keeps (C:Ctx) (w:World) (C' : Ctx) (w' : World):Prop where
  size:w.heap.size ≤ w'.heap.size
  blk:∀ b,b < w.heap.size → ¬ Mut C b→w'.heap[b]? = w.heap[b]?
  may:∀ b,b < w.heap.size→Mut C' b→Mut C b
  turn:∀ id o,C.σ[id]? = some o→∃ o',C'.σ[id]? = some o' ∧ Turn o o' (C'.φ id=C.φ id∧C'.κ id=C.κ id)
theorem Grow.keeps {ro:Nat} {C C' : Ctx} {w w' : World} (h:Grow ro C w C' w'):Keeps C w C' w' :=
  ⟨h.size,fun b hb hm=>h.blk b hb (fun id o _ ho hl e=>hm (.inr ⟨id,o,ho,hl,e⟩)),h.may,h.turn⟩
theorem holds_block {w w' : World} {b o:Nat} {us:List Value} (h:w'.heap[b]? = w.heap[b]?) (hh:Holds w b o us):Holds w' b o us:=by
  intro i x hi
  have:=hh i x hi
  unfold World.cell? at this ⊢
  simp only at this ⊢
  rw [h]
  exact this

mutual
theorem Rep.mono {C C' : Ctx} {w w' : World} (hk:Keeps C w C' w'):∀ (v:AV) (u:Value),Rep C w v u→Rep C' w' v u
  | .int _ _, _, h | .bool _, _, h | .str _, _, h | .pnil, _, h | .mnil, _, h | .fnil, _, h | .inil, _, h | .undef, _, h | .raw _, _, h | .ptag _, _, h => by
    simp only [Rep] at h ⊢; exact h
  | .any,_,_=>by simp only [Rep]
  | .ref id off, u, h => by
    simp only [Rep] at h ⊢
    obtain ⟨⟨cs,hc⟩,rfl⟩:=h
    obtain ⟨o',h1,⟨cs',rfl,_⟩,e,_⟩:=hk.turn id _ hc
    exact ⟨⟨cs',h1⟩,by rw [e]⟩
  | .map id, u, h => by
    simp only [Rep] at h ⊢
    obtain ⟨⟨cs,hc⟩,rfl⟩:=h
    obtain ⟨o',h1,⟨cs',rfl⟩,e,_⟩:=hk.turn id _ hc
    exact ⟨⟨cs',h1⟩,by rw [e]⟩
  | .eref id n off, u, h => by
    simp only [Rep] at h ⊢
    exact ⟨h.1,RowIs.mono (hk.turn id) h.2⟩
  | .own id n, u, h => by
    simp only [Rep] at h ⊢
    exact ⟨h.1,RowIs.mono (hk.turn id) h.2⟩
  | .list k n sz cs, u, h => by
    simp only [Rep] at h ⊢
    obtain ⟨h0,h1,a,cap,h2,h3,h4,h5,h6,h7⟩:=h
    refine ⟨h0,h1,a,cap,h2,h3,h4,h5,h6,fun hn => ?_⟩
    obtain ⟨b,o,us,k1,k2,k3,k4,k5⟩:=h7 hn
    exact ⟨b,o,us,k1,Nat.lt_of_lt_of_le k2 hk.size,fun hm=>k3 (hk.may b k2 hm),holds_block (hk.blk b k2 k3) k4,RepAll.mono hk cs us k5⟩
  | .eaddr cs, u, h => by
    simp only [Rep] at h ⊢
    obtain ⟨h1,b,o,us,k1,k2,k3,k4,k5⟩:=h
    exact ⟨h1,b,o,us,k1,Nat.lt_of_lt_of_le k2 hk.size,fun hm=>k3 (hk.may b k2 hm),holds_block (hk.blk b k2 k3) k4,RepAll.mono hk cs us k5⟩
  | .clo f caps, u, h => by
    simp only [Rep] at h ⊢
    obtain ⟨us,e,h⟩:=h
    exact ⟨us,e,RepAll.mono hk caps us h⟩
  | .agg cs, u, h => by
    simp only [Rep] at h ⊢
    obtain ⟨h1,us,e,h⟩:=h
    exact ⟨h1,us,e,RepAll.mono hk cs us h⟩
  | .tup cs, u, h => by
    simp only [Rep] at h ⊢
    obtain ⟨us,e,h⟩:=h
    exact ⟨us,e,RepAll.mono hk cs us h⟩
  | .iface t v, u, h => by
    simp only [Rep] at h ⊢
    obtain ⟨x,e,h⟩:=h
    exact ⟨x,e,Rep.mono hk v x h⟩
theorem RepAll.mono {C C' : Ctx} {w w' : World} (hk:Keeps C w C' w'):∀ (vs:List AV) (us:List Value),RepAll C w vs us→RepAll C' w' vs us
  | [],[],_=>by simp only [RepAll]
  | v :: vs, u :: us, h => by
    simp only [RepAll] at h ⊢
    exact ⟨Rep.mono hk v u h.1,RepAll.mono hk vs us h.2⟩
  | [],_::_,h=>by simp only [RepAll] at h
  | _::_,[],h=>by simp only [RepAll] at h
end

theorem RepAll.length {C:Ctx} {w:World}:∀ {vs:List AV} {us:List Value},RepAll C w vs us→vs.length=us.length
  | [],[],_=>rfl
  | v::vs,u::us,h=>by simp only [RepAll] at h; simp [RepAll.length h.2]
  | [],_::_,h=>by simp only [RepAll] at h
  | _::_,[],h=>by simp only [RepAll] at h
theorem RepAll.get {C:Ctx} {w:World}:∀ {vs:List AV} {us:List Value} (i:Nat) (v:AV),RepAll C w vs us→vs[i]? = some v→∃ u,us[i]? = some u∧Rep C w v u
  | v::vs,u::us,0,x,h,hi=>by simp only [RepAll] at h; simp only [List.getElem?_cons_zero,Option.some.injEq] at hi ⊢; subst hi; exact ⟨u,rfl,h.1⟩
  | v::vs,u::us,i + 1,x,h,hi=>by simp only [RepAll] at h; simp only [List.getElem?_cons_succ] at hi ⊢; exact RepAll.get i x h.2 hi
  | [],_,i,x,h,hi=>by simp at hi
  | _::_,[],i,x,h,hi=>by simp only [RepAll] at h
theorem RepAll.append {C:Ctx} {w:World}:∀ {vs vs' : List AV} {us us' : List Value},RepAll C w vs us→RepAll C w vs' us' → RepAll C w (vs ++ vs') (us ++ us')
  | [],_,[],_,_,h=>h
  | v::vs,_,u::us,_,h,k=>by simp only [RepAll,List.cons_append] at h ⊢; exact ⟨h.1,RepAll.append h.2 k⟩
  | [],_,_::_,_,h,_=>by simp only [RepAll] at h
  | _::_,_,[],_,h,_=>by simp only [RepAll] at h
theorem RepAll.take {C:Ctx} {w:World}:∀ {vs:List AV} {us:List Value} (k:Nat),RepAll C w vs us→RepAll C w (vs.take k) (us.take k)
  | _,_,0,_=>by simp only [List.take_zero,RepAll]
  | [],[],k + 1,_=>by simp only [List.take_nil,RepAll]
  | v::vs,u::us,k + 1,h=>by simp only [RepAll,List.take_succ_cons] at h ⊢; exact ⟨h.1,RepAll.take k h.2⟩
  | [],_::_,_ + 1,h=>by simp only [RepAll] at h
  | _::_,[],_ + 1,h=>by simp only [RepAll] at h
theorem RepAll.drop {C:Ctx} {w:World}:∀ {vs:List AV} {us:List Value} (k:Nat),RepAll C w vs us→RepAll C w (vs.drop k) (us.drop k)
  | _,_,0,h=>h
  | [],[],k + 1,_=>by simp only [List.drop_nil,RepAll]
  | v::vs,u::us,k + 1,h=>by simp only [RepAll,List.drop_succ_cons] at h ⊢; exact RepAll.drop k h.2
  | [],_::_,_ + 1,h=>by simp only [RepAll] at h
  | _::_,[],_ + 1,h=>by simp only [RepAll] at h
theorem allOne_iff:∀ {vs:List AV},allOne vs ↔ ∀ v ∈ vs,v.one=true
  | []=>by simp [allOne]
  | v::vs=>by simp [allOne,allOne_iff (vs:=vs)]
theorem allOne.append {vs vs' : List AV} (h:allOne vs) (k:allOne vs'):allOne (vs ++ vs'):=by
  rw [allOne_iff] at *
  intro v hv
  rcases List.mem_append.1 hv with hv | hv
  · exact h v hv
  · exact k v hv
theorem allOne.take {vs:List AV} (k:Nat) (h:allOne vs):allOne (vs.take k):=by
  rw [allOne_iff] at *
  exact fun v hv=>h v (List.mem_of_mem_take hv)
theorem allOne.drop {vs:List AV} (k:Nat) (h:allOne vs):allOne (vs.drop k):=by
  rw [allOne_iff] at *
  exact fun v hv=>h v (List.mem_of_mem_drop hv)
/-- A one-cell value is one cell. -/
theorem Rep.one {C:Ctx} {w:World} {v:AV} {u:Value} (h:Rep C w v u) (ho:v.one=true):u.cells = #[u]∧(∀ cs,u ≠ .agg cs)∧(∀ cs,u ≠ .tuple cs):=by
  cases v <;> simp only [Rep,AV.one,Bool.false_eq_true] at h ho
  case eref=>obtain ⟨⟨a,o,rfl⟩,_⟩:=h; simp [Value.cells]
  case own=>obtain ⟨⟨a,c,rfl⟩,_⟩:=h; simp [Value.cells]
  case list=>obtain ⟨_,_,a,cap,rfl,_⟩:=h; simp [Value.cells]
  case eaddr=>obtain ⟨_,b,o,us,rfl,_⟩:=h; simp [Value.cells]
  case clo=>obtain ⟨us,rfl,_⟩:=h; simp [Value.cells]
  case iface=>obtain ⟨x,rfl,_⟩:=h; simp [Value.cells]
  case ref=>obtain ⟨_,rfl⟩:=h; simp [Value.cells]
  case map=>obtain ⟨_,rfl⟩:=h; simp [Value.cells]
  all_goals (subst h; simp [Value.cells])
/-- A value's cells. -/
theorem Rep.cells {C:Ctx} {w:World} {v:AV} {u:Value} (h:Rep C w v u) (ho:v.one=true ∨ ∃ cs,v = .agg cs):RepAll C w v.cells u.cells.toList∧allOne v.cells:=by
  rcases ho with ho | ⟨cs,rfl⟩
  · rw [(h.one ho).1]
    have:v.cells=[v]:=by cases v <;> simp_all [AV.cells,AV.one]
    rw [this]
    exact ⟨by simp only [RepAll]; exact ⟨h,trivial⟩,by simp [allOne,ho]⟩
  · simp only [Rep] at h
    obtain ⟨h1,us,rfl,h2⟩:=h
    exact ⟨by simpa [AV.cells,Value.cells] using h2,h1⟩
theorem holds_drop {w:World} {b o:Nat} {us:List Value} (k:Nat) (h:Holds w b o us):Holds w b (o + k) (us.drop k):=by
  intro i x hi
  rw [List.getElem?_drop] at hi
  have:=h _ _ hi
  rwa [← Nat.add_assoc] at this
theorem holds_take {w:World} {b o:Nat} {us:List Value} (k:Nat) (h:Holds w b o us):Holds w b o (us.take k):=by
  intro i x hi
  rw [List.getElem?_take] at hi
  split at hi
  · exact h _ _ hi
  · cases hi
end Go.Vm
end
/- Each plain operation does what the evaluator says: numbers, strings, tests, parts of values. -/
section
namespace Go.Vm
open Go.RowKit (Below)
variable [Fixed]
variable {P:Program} {C:Ctx} {w:World}

theorem run_und {t:TypeId} {d:TypeDesc} (h:P.underlying t=some d):(underlying t).run P w = .ok d w:=by simp [underlying,h]
theorem run_info {t:TypeId} {i:TypeInfo} (h:P.info? t=some i):(typeInfo t).run P w = .ok i w:=by simp [typeInfo,h]

theorem guard_plain {op:BinOp} {t:TypeId} {x y:Operand} {a b:Value} (h:∀ p q,¬ (a = .agg p∧b = .agg q)) (h' : ¬ (a = .nilIface∧b = .nilIface)):(eqGuard op t x y a b).run P w = .ok () w:=by
  cases op <;> first
    | rfl
    | (cases a <;> cases b <;> first
        | exact absurd ⟨rfl,rfl⟩ h'
        | exact absurd ⟨rfl,rfl⟩ (h _ _)
        | rfl)

theorem int_run {op:BinOp} {t:TypeId} {k:IntKind} {a b:Int} {v:AV} (h:intArith op k a b=some v) (hs:op ≠ .shl) (hs' : op ≠ .shr):∃ u,(binOp op t (.int k a) (.int k b)).run P w = .ok u w∧Rep C w v u:=by
  cases op <;> simp only [intArith, reduceCtorEq, Option.some.injEq, ne_eq, not_true] at h hs hs' <;> first
    | (subst h; refine ⟨_,?_,rfl⟩; simp [binOp,Op.intArith,Op.intBits,Op.intCmp])
    | (split at h
       · cases h
       · simp only [Option.some.injEq] at h
         subst h
         refine ⟨_,?_,rfl⟩
         simp [binOp,Op.intArith,Op.intDiv, *])
theorem str_run {op:BinOp} {t:TypeId} {a b:ByteArray} {v:AV} (h:strOp op a b=some v):∃ u,(binOp op t (.string a) (.string b)).run P w = .ok u w∧Rep C w v u:=by
  cases op <;> simp only [strOp, reduceCtorEq, Option.some.injEq] at h <;> first
    | (subst h; refine ⟨_,?_,rfl⟩; simp [binOp,Op.stringOp])
    | (split at h
       · cases h
       · simp only [Option.some.injEq] at h
         subst h
         refine ⟨_,?_,rfl⟩
         simp only [binOp,Op.stringOp]; rw [if_neg (by assumption)]; rfl)
theorem nilPtr_run {v:AV} {u:Value} {b:Bool} (h:nilPtr v=some b) (hr:Rep C w v u):∃ a:Option Addr,u = .pointer a∧a.isNone=b:=by
  cases v <;> simp only [nilPtr,reduceCtorEq,Option.some.injEq] at h <;> simp only [Rep] at hr <;> subst h
  · exact ⟨_,hr,rfl⟩
  · exact ⟨_,hr.2,rfl⟩
  · obtain ⟨_,b,o,us,rfl,_⟩:=hr; exact ⟨_,rfl,rfl⟩
theorem nilMap_run {v:AV} {u:Value} {b:Bool} (h:nilMap v=some b) (hr:Rep C w v u):∃ a:Option Nat,u = .map a∧a.isNone=b:=by
  cases v <;> simp only [nilMap,reduceCtorEq,Option.some.injEq] at h <;> simp only [Rep] at hr <;> subst h
  · exact ⟨_,hr,rfl⟩
  · exact ⟨_,hr.2,rfl⟩
theorem nilSl_run {v:AV} {u:Value} {b:Bool} (h:nilSl v=some b) (hr:Rep C w v u):∃ (a:Option Addr) (n c:Nat),u = .slice a n c∧a.isNone=b:=by
  cases v <;> simp only [nilSl,reduceCtorEq] at h
  case list k n sz cs =>
    simp only [Rep] at hr
    obtain ⟨_,_,a,cap,rfl,_,_,_,h6,h7⟩:=hr
    cases k <;> simp only [nilSl,Option.some.injEq] at h
    case nil=>subst h; exact ⟨_,_,_,rfl,by rw [(h6 rfl).1]; rfl⟩
    all_goals
      split at h
      · cases h
      · simp only [Option.some.injEq] at h
        subst h
        obtain ⟨b,o,us,rfl,_⟩:=h7 (by omega)
        exact ⟨_,_,_,rfl,rfl⟩
theorem equal_bool {t:TypeId} {a b:Bool} (hu:P.underlying t=some .bool):(Op.equal t (.bool a) (.bool b)).run P w = .ok (a == b) w:=by
  unfold Op.equal Op.maxDepth Op.equalIn
  simp only [Sem.run_bind,run_und hu,Result.andThen]
  rfl
theorem equal_ptr {t e:TypeId} (hu:P.underlying t=some (.pointer e)) (p q:Option Addr) (hpq:p=none ∨ q=none):(Op.equal t (.pointer p) (.pointer q)).run P w = .ok (p.isNone && q.isNone) w:=by
  unfold Op.equal Op.maxDepth Op.equalIn
  simp only [Sem.run_bind,run_und hu,Result.andThen]
  cases p <;> cases q <;> simp at hpq <;> rfl
theorem equal_sl {t e:TypeId} (hu:P.underlying t=some (.slice e)) (p q:Option Addr) (m n c d:Nat) (hpq:p=none ∨ q=none):(Op.equal t (.slice p m c) (.slice q n d)).run P w = .ok (p.isNone && q.isNone) w:=by
  unfold Op.equal Op.maxDepth Op.equalIn
  simp only [Sem.run_bind,run_und hu,Result.andThen]
  cases p <;> cases q <;> simp at hpq <;> rfl
theorem equal_map {t e k:TypeId} (hu:P.underlying t=some (.map k e)) (p q:Option Nat) (hpq:p=none ∨ q=none):(Op.equal t (.map p) (.map q)).run P w = .ok (p.isNone && q.isNone) w:=by
  unfold Op.equal Op.maxDepth Op.equalIn
  simp only [Sem.run_bind,run_und hu,Result.andThen]
  cases p <;> cases q <;> simp at hpq <;> rfl
theorem eqv_run {t:TypeId} {x y:AV} {ux uy:Value} {b:Bool} (h:eqv P t x y=some b) (hx:Rep C w x ux) (hy:Rep C w y uy) :
    (Op.equal t ux uy).run P w = .ok b w∧(∀ p q,¬ (ux = .agg p∧uy = .agg q)) ∧ ¬ (ux = .nilIface∧uy = .nilIface)∧(∀ k n,ux ≠ .int k n)∧(∀ s,ux ≠ .string s)∧(∀ k n,ux ≠ .float k n)∧(∀ k m n,ux ≠ .complex k m n):=by
  unfold eqv at h
  split at h
  · rename_i hu
    split at h
    · simp only [Option.some.injEq] at h
      simp only [Rep] at hx hy
      subst h; subst hx; subst hy
      exact ⟨equal_bool hu,by simp,by simp,by simp,by simp,by simp,by simp⟩
    · cases h
  · rename_i hu
    have key:∀ (p q:Option Addr),p=none ∨ q=none→(Op.equal t (.pointer p) (.pointer q)).run P w = .ok (p.isNone && q.isNone) w:=equal_ptr hu
    split at h
    · obtain ⟨q, rfl, rfl⟩ := nilPtr_run h hy
      simp only [Rep] at hx
      subst hx
      exact ⟨by rw [key _ _ (.inl rfl)]; simp,by simp,by simp,by simp,by simp,by simp,by simp⟩
    · obtain ⟨q, rfl, rfl⟩ := nilPtr_run h hx
      simp only [Rep] at hy
      subst hy
      exact ⟨by rw [key _ _ (.inr rfl)]; simp,by simp,by simp,by simp,by simp,by simp,by simp⟩
    · cases h
  · rename_i hu
    have key:∀ (p q:Option Addr) (m n c d:Nat),p=none ∨ q=none→(Op.equal t (.slice p m c) (.slice q n d)).run P w = .ok (p.isNone && q.isNone) w:=equal_sl hu
    split at h
    · rename_i h1 h2
      obtain ⟨p,m,c,rfl,hp⟩:=nilSl_run h1 hx
      obtain ⟨q,n,d,rfl,hq⟩:=nilSl_run h2 hy
      cases h
      exact ⟨by rw [key _ _ _ _ _ _ (.inl (by simpa using hp)),hp,hq]; simp,by simp,by simp,by simp,by simp,by simp,by simp⟩
    · rename_i h1 h2
      obtain ⟨p,m,c,rfl,hp⟩:=nilSl_run h1 hx
      obtain ⟨q,n,d,rfl,hq⟩:=nilSl_run h2 hy
      cases h
      exact ⟨by rw [key _ _ _ _ _ _ (.inr (by simpa using hq)),hp,hq]; simp,by simp,by simp,by simp,by simp,by simp,by simp⟩
    · cases h
  · rename_i hu
    have key:∀ (p q:Option Nat),p=none ∨ q=none→(Op.equal t (.map p) (.map q)).run P w = .ok (p.isNone && q.isNone) w:=equal_map hu
    split at h
    · rename_i h1 h2
      obtain ⟨p,rfl,hp⟩:=nilMap_run h1 hx
      obtain ⟨q,rfl,hq⟩:=nilMap_run h2 hy
      cases h
      exact ⟨by rw [key _ _ (.inl (by simpa using hp)),hp,hq]; simp,by simp,by simp,by simp,by simp,by simp,by simp⟩
    · rename_i h1 h2
      obtain ⟨p,rfl,hp⟩:=nilMap_run h1 hx
      obtain ⟨q,rfl,hq⟩:=nilMap_run h2 hy
      cases h
      exact ⟨by rw [key _ _ (.inr (by simpa using hq)),hp,hq]; simp,by simp,by simp,by simp,by simp,by simp,by simp⟩
    · cases h
  · cases h
end Go.Vm
end
/- Each plain operation does what the evaluator says, second part: the operations themselves. -/
section
namespace Go.Vm
open Go.RowKit (Below)
variable [Fixed]
variable {P:Program} {C:Ctx} {w:World}

theorem info_of_und {t:TypeId} {d:TypeDesc} (h:P.underlying t=some d):∃ i,P.info? t=some i:=by
  unfold Program.underlying at h
  cases hi:P.info? t with
  | none=>simp [hi] at h
  | some i=>exact ⟨i,rfl⟩
theorem run_size {t:TypeId} (h:(P.info? t).isSome=true):(sizeOf t).run P w = .ok (P.cellsOf t) w:=by
  obtain ⟨i,hi⟩:=Option.isSome_iff_exists.1 h
  simp [sizeOf,run_info hi,Program.cellsOf,hi]
theorem run_size_und {t:TypeId} {d:TypeDesc} (h:P.underlying t=some d):(sizeOf t).run P w = .ok (P.cellsOf t) w:=by
  obtain ⟨i,hi⟩:=info_of_und h
  exact run_size (by simp [hi])

theorem guard_shl {t:TypeId} {x y:Operand} {a b:Value}:(eqGuard .shl t x y a b).run P w = .ok () w:=rfl
theorem guard_shr {t:TypeId} {x y:Operand} {a b:Value}:(eqGuard .shr t x y a b).run P w = .ok () w:=rfl

theorem unv_run {op:UnOp} {x v:AV} {u:Value} (h:unv op x=some v) (hx:Rep C w x u):∃ z,(Op.unary op u).run P w = .ok z w∧Rep C w v z:=by
  unfold unv at h
  split at h
  · simp only [Rep] at hx
    subst hx
    simp only [Option.some.injEq] at h
    subst h
    exact ⟨_,by simp [Op.unary,Op.intArith],rfl⟩
  · simp only [Rep] at hx
    subst hx
    simp only [intArith,Option.some.injEq] at h
    subst h
    exact ⟨_,by simp [Op.unary,Op.intBits],rfl⟩
  · simp only [Rep] at hx
    subst hx
    simp only [Option.some.injEq] at h
    subst h
    exact ⟨_,by simp [Op.unary],rfl⟩
  · cases h
theorem convv_run {s d:TypeId} {x v:AV} {u:Value} (h:convv P s d x=some v) (hx:Rep C w x u):∃ z,(convert s d u).run P w = .ok z w∧Rep C w v z:=by
  unfold convv at h
  split at h
  · rename_i h1 h2
    simp only [Rep] at hx
    subst hx
    simp only [Option.some.injEq] at h
    subst h
    exact ⟨_,by simp [convert,run_und h1,run_und h2,Conv.intToInt],rfl⟩
  · rename_i h1 h2
    simp only [Rep] at hx
    subst hx
    simp only [Option.some.injEq] at h
    subst h
    exact ⟨_,by simp [convert,run_und h1,run_und h2],rfl⟩
  · cases h

mutual
theorem ofVal_rep (C:Ctx) (w:World):∀ (u:Value) (v:AV),AV.ofVal u=some v→Rep C w v u:=by
  intro u v h
  match u with
  | .int k n | .bool b | .string s | .pointer none | .map none | .nilFunc | .nilIface =>
    simp only [AV.ofVal,Option.some.injEq] at h
    subst h
    simp only [Rep]
  | .slice none 0 0 =>
    simp only [AV.ofVal,Option.some.injEq] at h
    subst h
    simp only [Rep]
    exact ⟨rfl,trivial,none,0,rfl,Nat.le_refl _,by simp [maxLen],fun _=>rfl,fun _=>⟨rfl,rfl⟩,fun h=>absurd h (by omega)⟩
  | .agg ⟨us⟩ =>
    simp only [AV.ofVal] at h
    split at h
    · rename_i cs hc
      simp only [Option.some.injEq] at h
      subst h
      have:=ofVals_rep C w us cs hc
      simp only [Rep]
      exact ⟨this.2,us,rfl,this.1⟩
    · cases h
  | .float _ _ | .complex _ _ _ | .pointer (some _) | .slice (some _) _ _ | .slice none (_ + 1) _ | .slice none 0 (_ + 1) | .map (some _) | .func _ _ _ | .iface _ _ | .tuple _ | .chan _=>simp [AV.ofVal] at h
theorem ofVals_rep (C:Ctx) (w:World):∀ (us:List Value) (vs:List AV),AV.ofVals us=some vs→RepAll C w vs us∧allOne vs:=by
  intro us vs h
  match us with
  | [] =>
    simp only [AV.ofVals,Option.some.injEq] at h
    subst h
    simp [RepAll,allOne]
  | u :: us =>
    simp only [AV.ofVals] at h
    split at h
    · rename_i v vs' h1 h2
      split at h
      · rename_i ho
        simp only [Option.some.injEq] at h
        subst h
        have a:=ofVal_rep C w u v h1
        have b:=ofVals_rep C w us vs' h2
        simp only [RepAll,allOne]
        exact ⟨⟨a,b.1⟩,ho,b.2⟩
      · cases h
    · cases h
end

def aggD:TypeDesc→Bool
  | .struct _=>true
  | .array _ _=>true
  | _=>false
theorem isAgg_run {t:TypeId} {d:TypeDesc} (h:P.underlying t=some d):(isAgg t).run P w = .ok (aggD d) w:=by
  simp only [isAgg,Sem.run_bind,run_und h,Result.andThen]
  cases d <;> rfl
theorem partOf_run {t:TypeId} {cs:List AV} {us:List Value} {off:Nat} {v:AV} (h:partOf P t cs off=some v) (hr:RepAll C w cs us) (ho:allOne cs) :
    ∃ u,(part t us.toArray off).run P w = .ok u w∧Rep C w v u:=by
  unfold partOf at h
  split at h
  · rename_i fs hu
    split at h
    · simp only [Option.some.injEq] at h
      subst h
      refine ⟨.agg ((us.drop off).take (P.cellsOf t)).toArray,?_,?_⟩
      · simp only [part, Sem.run_bind, isAgg_run hu, aggD, Result.andThen, if_true, Sem.run_bind, run_size_und hu, Sem.run_pure]
        simp
      · simp only [Rep]
        exact ⟨(ho.drop _).take _,_,rfl,(hr.drop _).take _⟩
    · cases h
  · rename_i l e hu
    split at h
    · simp only [Option.some.injEq] at h
      subst h
      refine ⟨.agg ((us.drop off).take (P.cellsOf t)).toArray,?_,?_⟩
      · simp only [part, Sem.run_bind, isAgg_run hu, aggD, Result.andThen, if_true, Sem.run_bind, run_size_und hu, Sem.run_pure]
        simp
      · simp only [Rep]
        exact ⟨(ho.drop _).take _,_,rfl,(hr.drop _).take _⟩
    · cases h
  · rename_i d n1 n2 hu
    obtain ⟨u,h1,h2⟩:=hr.get off v h
    refine ⟨u,?_,h2⟩
    simp only [part,Sem.run_bind,isAgg_run hu,Result.andThen]
    cases d <;> simp only [aggD] <;> first
      | exact absurd rfl (n1 _)
      | exact absurd rfl (n2 _ _)
      | simp [h1]
  · cases h
theorem bytes_beq (a b:ByteArray):(a == b)=(a.toList == b.toList):=by
  rw [ByteArray.toList_eq,ByteArray.toList_eq]
  have:(a == b)=(a.data == b.data):=by cases a; cases b; rfl
  rw [this,Bool.eq_iff_iff,beq_iff_eq,beq_iff_eq,Array.toList_inj]
theorem eqLeaf_run {t:TypeId} {x y:AV} {ux uy:Value} {b:Bool} {d:Nat} (h:eqLeaf P t x y=some b) (hx:Rep C w x ux) (hy:Rep C w y uy):(Op.equalIn (d + 1) t ux uy).run P w = .ok b w:=by
  unfold eqLeaf at h
  split at h
  · rename_i hu
    simp only [Rep] at hx hy
    subst hx; subst hy
    simp only [Option.some.injEq] at h
    subst h
    unfold Op.equalIn
    simp only [Sem.run_bind,run_und hu,Result.andThen]
    rw [← bytes_beq]
    rfl
  · rename_i hu
    simp only [Rep] at hx hy
    subst hx; subst hy
    split at h
    · rename_i hk
      subst hk
      simp only [Option.some.injEq] at h
      subst h
      unfold Op.equalIn
      simp only [Sem.run_bind,run_und hu,Result.andThen,if_true]
      rfl
    · cases h
  · rename_i hu
    simp only [Rep] at hx hy
    subst hx; subst hy
    simp only [Option.some.injEq] at h
    subst h
    unfold Op.equalIn
    simp only [Sem.run_bind,run_und hu,Result.andThen]
    rfl
  · cases h
theorem forIn_eqFs (cmp : Field → Sem Bool) : ∀ (l : List Field) (bs : Field → Bool), (∀ f ∈ l, f.name ≠ "_" ∧ (cmp f).run P w = .ok (bs f) w) →
    (do let s ← forIn l (none, ()) (fun f (_ : Option Bool × Unit) => if f.name ≠ "_" then do
                      let b ← cmp f
                      if (!b) = true then pure (ForInStep.done (some false, ()))
                        else pure (ForInStep.yield (none,()))
                    else pure (ForInStep.yield (none,())))
        match s.fst with
                | some r=>pure r
                | none=>pure true:Sem Bool).run P w = .ok (l.all bs) w
  | [],bs,_=>by simp [List.all]
  | f :: l, bs, h => by
    obtain ⟨h1,h2⟩:=h f (List.mem_cons_self ..)
    have ih:=forIn_eqFs cmp l bs (fun g hg=>h g (List.mem_cons_of_mem _ hg))
    rw [List.forIn_cons]
    simp only [Sem.run_bind,h1,ne_eq,not_false_eq_true,if_true,h2,Result.andThen] at ih ⊢
    cases hb:bs f with
    | true=>simpa [List.all,hb] using ih
    | false=>simp [List.all,hb]
/-- What a field's comparison answers. -/
def eqBit (P:Program) (xs ys:List AV) (f:Field):Bool:=match partOf P f.type xs f.offset,partOf P f.type ys f.offset with
  | some x,some y=>(eqLeaf P f.type x y).getD false
  | _,_=>false
theorem eqFs_all {xs ys : List AV} : ∀ {fs : List Field} {b : Bool}, eqFs P fs xs ys = some b → b = fs.all (eqBit P xs ys) ∧ ∀ f ∈ fs, f.name ≠ "_" ∧ ∃ x y c, partOf P f.type xs f.offset = some x ∧ partOf P f.type ys f.offset = some y ∧ eqLeaf P f.type x y = some c ∧ eqBit P xs ys f = c
  | [],b,h=>by simp only [eqFs,Option.some.injEq] at h; subst h; simp
  | f :: fs, b, h => by
    simp only [eqFs] at h
    split at h
    · cases h
    · rename_i hn
      split at h
      · rename_i x y h1 h2
        split at h
        · rename_i c r h3 h4
          simp only [Option.some.injEq] at h
          subst h
          obtain ⟨e,k⟩:=eqFs_all h4
          have hbit:eqBit P xs ys f=c:=by simp [eqBit,h1,h2,h3]
          refine ⟨by rw [List.all_cons,hbit,e],fun g hg => ?_⟩
          rcases List.mem_cons.1 hg with rfl | hg
          · exact ⟨hn,x,y,c,h1,h2,h3,hbit⟩
          · exact k g hg
        · cases h
      · cases h
theorem eqs_run {t:TypeId} {xs ys:List AV} {ux uy:Value} {b:Bool} (h:eqs P t xs ys=some b) (hx:Rep C w (.agg xs) ux) (hy:Rep C w (.agg ys) uy) :
    ∃ p q,ux = .agg p∧uy = .agg q∧(Op.equal t ux uy).run P w = .ok b w∧P.eqGuardType P.depth t=false:=by
  unfold eqs at h
  split at h
  · rename_i fs hu
    split at h
    · rename_i hc
      simp only [Rep] at hx hy
      obtain ⟨ox,us,rfl,hx⟩:=hx
      obtain ⟨oy,vs,rfl,hy⟩:=hy
      refine ⟨_,_,rfl,rfl,?_,hc.2⟩
      obtain ⟨e,hall⟩:=eqFs_all h
      subst e
      unfold Op.equal Op.maxDepth Op.equalIn
      have hprog:(program:Sem Program).run P w = .ok P w:=rfl
      simp only [Sem.run_bind,run_und hu,Result.andThen,hprog,hc.1,Bool.false_eq_true,if_false]
      rw [← Array.forIn_toList]
      have key := forIn_eqFs (P := P) (w := w) (fun f => do
        let a ← part f.type us.toArray f.offset
        let b ← part f.type vs.toArray f.offset
        Op.equalIn 9999 f.type a b) fs.toList (eqBit P xs ys) (fun f hf => by
          obtain ⟨hn,x,y,c,h1,h2,h3,h4⟩:=hall f hf
          obtain ⟨a,k1,k2⟩:=partOf_run h1 hx ox
          obtain ⟨b,k3,k4⟩:=partOf_run h2 hy oy
          refine ⟨hn,?_⟩
          simp only [Sem.run_bind,k1,k3,Result.andThen]
          rw [h4]
          exact eqLeaf_run h3 k2 k4)
      simp only [Sem.run_bind,Result.andThen,bind_assoc] at key
      refine Eq.trans ?_ key
      congr 1
      funext r w'
      obtain ⟨o,_⟩:=r
      cases o <;> rfl
    · cases h
  · cases h
theorem guard_agg {op:BinOp} {t:TypeId} {x y:Operand} {p q:Array Value} (h:P.eqGuardType P.depth t=false):(eqGuard op t x y (.agg p) (.agg q)).run P w = .ok () w:=by
  unfold eqGuard
  cases op <;> simp [h]
theorem binv_run {op:BinOp} {t:TypeId} {x y:Operand} {vx vy v:AV} {ux uy:Value} (h:binv P op t vx vy=some v) (hx:Rep C w vx ux) (hy:Rep C w vy uy) :
    ∃ u,(do eqGuard op t x y ux uy; binOp op t ux uy:Sem Value).run P w = .ok u w∧Rep C w v u:=by
  unfold binv at h
  split at h
  · split at h
    · rename_i b he
      simp only [Option.some.injEq] at h
      subst h
      obtain ⟨p,q,rfl,rfl,h1,h2⟩:=eqs_run (P:=P) he hx hy
      refine ⟨_,?_,rfl⟩
      have e:binOp .eql t (.agg p) (.agg q)=(do pure (.bool (← Op.equal t (.agg p) (.agg q)))):=rfl
      simp [guard_agg h2,e,h1]
    · cases h
  · split at h
    · rename_i b he
      simp only [Option.some.injEq] at h
      subst h
      obtain ⟨p,q,rfl,rfl,h1,h2⟩:=eqs_run (P:=P) he hx hy
      refine ⟨_,?_,rfl⟩
      have e:binOp .neq t (.agg p) (.agg q)=(do pure (.bool (!(← Op.equal t (.agg p) (.agg q))))):=rfl
      simp [guard_agg h2,e,h1]
    · cases h
  · simp only [Rep] at hx hy
    subst hx; subst hy
    split at h
    · cases h
    · rename_i hb
      simp only [Option.some.injEq] at h
      subst h
      refine ⟨_,?_,rfl⟩
      simp [guard_shl,binOp,Op.shift,hb]
  · simp only [Rep] at hx hy
    subst hx; subst hy
    split at h
    · cases h
    · rename_i hb
      simp only [Option.some.injEq] at h
      subst h
      refine ⟨_,?_,rfl⟩
      simp [guard_shr,binOp,Op.shift,hb]
  · rename_i n1 n2
    simp only [Rep] at hx hy
    subst hx; subst hy
    split at h
    · rename_i hk
      subst hk
      obtain ⟨u,h1,h2⟩:=int_run (P:=P) (C:=C) (w:=w) (t:=t) h (fun e=>by subst e; simp at n1) (fun e=>by subst e; simp at n2)
      exact ⟨u,by simp [guard_plain,h1],h2⟩
    · cases h
  · simp only [Rep] at hx hy
    subst hx; subst hy
    obtain ⟨u,h1,h2⟩:=str_run (P:=P) (C:=C) (w:=w) (t:=t) h
    exact ⟨u,by simp [guard_plain,h1],h2⟩
  · split at h
    · rename_i he
      simp only [Option.some.injEq] at h
      subst h
      obtain ⟨h1,h2,h3,h4,h5,h6,h7⟩:=eqv_run (P:=P) he hx hy
      refine ⟨_,?_,rfl⟩
      have e : binOp .eql t ux uy = (do pure (.bool (← Op.equal t ux uy))) := by
        cases ux <;> first
          | rfl
          | exact absurd rfl (h4 _ _)
          | exact absurd rfl (h5 _)
          | exact absurd rfl (h6 _ _)
          | exact absurd rfl (h7 _ _ _)
      simp [guard_plain h2 h3,e,h1]
    · cases h
  · split at h
    · rename_i he
      simp only [Option.some.injEq] at h
      subst h
      obtain ⟨h1,h2,h3,h4,h5,h6,h7⟩:=eqv_run (P:=P) he hx hy
      refine ⟨_,?_,rfl⟩
      have e : binOp .neq t ux uy = (do pure (.bool (!(← Op.equal t ux uy)))) := by
        cases ux <;> first
          | rfl
          | exact absurd rfl (h4 _ _)
          | exact absurd rfl (h5 _)
          | exact absurd rfl (h6 _ _)
          | exact absurd rfl (h7 _ _ _)
      simp [guard_plain h2 h3,e,h1]
    · cases h
  · cases h

theorem fieldv_run {t:TypeId} {x v:AV} {f:Nat} {u:Value} (h:fieldv P t x f=some v) (hx:Rep C w x u):∃ z,(Instr.field t u f).run P w = .ok z w∧Rep C w v z:=by
  unfold fieldv at h
  split at h
  · rename_i fs cs hu
    split at h
    · rename_i fd hf
      simp only [Rep] at hx
      obtain ⟨h1,us,rfl,h2⟩:=hx
      obtain ⟨z,h3,h4⟩:=partOf_run (P:=P) h h2 h1
      exact ⟨z,by simp [Instr.field,run_und hu,hf,asAgg,h3],h4⟩
    · cases h
  · cases h
theorem indexv_run {t:TypeId} {x i v:AV} {u ui:Value} (h:indexv P t x i=some v) (hx:Rep C w x u) (hi:Rep C w i ui):∃ z,(Instr.index t u ui).run P w = .ok z w∧Rep C w v z:=by
  unfold indexv at h
  split at h
  · rename_i s k j hu
    simp only [Rep] at hx hi
    subst hx; subst hi
    split at h
    · rename_i hj
      split at h
      · rename_i b hb
        simp only [Option.some.injEq] at h
        subst h
        refine ⟨_,?_,rfl⟩
        have hb' : s[j.toNat]? = some b := by
          rw [← hb]; rfl
        simp [Instr.index,asIntOf,run_und hu,hj,hb']
      · cases h
    · cases h
  · rename_i len e cs k j hu
    simp only [Rep] at hx hi
    subst hi
    obtain ⟨h1,us,rfl,h2⟩:=hx
    split at h
    · rename_i hj
      obtain ⟨z,h3,h4⟩:=partOf_run (P:=P) h h2 h1
      have he : ∃ d, P.underlying e = some d := by
        unfold partOf at h
        cases hd:P.underlying e with
        | none=>rw [hd] at h; cases h
        | some d=>exact ⟨d,rfl⟩
      obtain ⟨d,hd⟩:=he
      refine ⟨z,?_,h4⟩
      simp only [Instr.index,Sem.run_bind,asIntOf,Sem.run_pure,run_und hu,Result.andThen,hj,Sem.run_ite,run_size_und hd,and_self,if_true,h3]
    · cases h
  · cases h
theorem extractv_run {x v:AV} {i:Nat} {u:Value} (h:extractv x i=some v) (hx:Rep C w x u):∃ z,(Instr.extract u i).run P w = .ok z w∧Rep C w v z:=by
  unfold extractv at h
  split at h
  · rename_i vs
    simp only [Rep] at hx
    obtain ⟨us,rfl,h2⟩:=hx
    obtain ⟨z,h1,h3⟩:=h2.get i v h
    exact ⟨z,by simp [Instr.extract,h1],h3⟩
  · cases h
theorem lenv_run {t ty:TypeId} {ts:Array TypeId} {x v:AV} {u:Value} (hs:SOk C w) (ht:ts[0]? = some t) (h:lenv P t C.σ x=some v) (hx:Rep C w x u):∃ z,(Builtin.len_ ts ty #[u]).run P w = .ok z w∧Rep C w v z:=by
  unfold lenv at h
  split at h
  · rename_i hu
    simp only [Rep] at hx
    subst hx
    simp only [Option.some.injEq] at h
    subst h
    exact ⟨_,by simp [Builtin.len_,ht,run_und hu,goInt],rfl⟩
  · rename_i hu
    simp only [Rep] at hx
    obtain ⟨_,_,a,cap,rfl,_⟩:=hx
    simp only [Option.some.injEq] at h
    subst h
    exact ⟨_,by simp [Builtin.len_,ht,run_und hu,goInt],rfl⟩
  · rename_i hu
    simp only [Rep] at hx
    obtain ⟨⟨a,c,rfl⟩,_⟩:=hx
    simp only [Option.some.injEq] at h
    subst h
    exact ⟨_,by simp [Builtin.len_,ht,run_und hu,goInt],rfl⟩
  · rename_i hu
    simp only [Rep] at hx
    subst hx
    simp only [Option.some.injEq] at h
    subst h
    exact ⟨_,by simp [Builtin.len_,ht,run_und hu,goInt],rfl⟩
  · rename_i id hu
    simp only [Rep] at hx
    obtain ⟨_,rfl⟩:=hx
    split at h
    · rename_i es he
      simp only [Option.some.injEq] at h
      subst h
      obtain ⟨ms,cl,h1,_,h2⟩:=hs.ob id _ he
      have hl : ∀ (es : List (AV × AV)) (ms : List MapEntry), RepEs C w es ms → es.length = ms.length := by
        intro es
        induction es with
        | nil=>intro ms h; cases ms with | nil=>rfl | cons m ms=>simp [RepEs] at h
        | cons e es ih=>intro ms h; cases ms with | nil=>simp [RepEs] at h | cons m ms=>simp only [RepEs] at h; simp [ih ms h.2.2]
      refine ⟨.int .i64 ms.size,?_,?_⟩
      · simp [Builtin.len_,ht,run_und hu,goInt,getObj,Sem.run,h1]
      · simp only [Rep]
        rw [hl _ _ h2]
        simp
    · cases h
  · cases h
theorem minsv_run (mx:Bool):∀ (ys:List AV) (x v:AV) (u:Value) (us:List Value),minsv mx x ys=some v→Rep C w x u→RepAll C w ys us→∃ z,(us.foldlM (if mx then Builtin.max2 else Builtin.min2) u:Sem Value).run P w = .ok z w∧Rep C w v z
  | [], x, v, u, us, h, hx, hy => by
    cases us with
    | nil=>simp only [minsv,Option.some.injEq] at h; subst h; exact ⟨u,rfl,hx⟩
    | cons _ _=>simp only [RepAll] at hy
  | y :: ys, x, v, u, us, h, hx, hy => by
    cases us with
    | nil=>simp only [RepAll] at hy
    | cons uy us =>
      simp only [RepAll] at hy
      simp only [minsv] at h
      split at h
      · rename_i z hz
        unfold minv2 at hz
        split at hz
        · rename_i k a k' b
          split at hz
          · rename_i hk
            subst hk
            simp only [Option.some.injEq] at hz
            have hy1:=hy.1
            simp only [Rep] at hx hy1
            subst hx; subst hy1
            obtain ⟨r,h1,h2⟩:=minsv_run mx ys z v (.int k (if mx then (if a < b then b else a) else (if b < a then b else a))) us h (by rw [← hz]; simp only [Rep]) hy.2
            refine ⟨r,?_,h2⟩
            rw [List.foldlM_cons,Sem.run_bind]
            cases mx
            · simp only [Bool.false_eq_true, if_false] at h1 ⊢
              exact h1
            · simp only [if_true] at h1 ⊢
              exact h1
          · cases hz
        · cases hz
      · cases h
end Go.Vm
end
/- Each plain operation does what the evaluator says, third part: addresses, loads, cuts, literals of structs, maps. -/
section
namespace Go.Vm
open Go.RowKit (Below)
variable [Fixed]
variable {P:Program} {C:Ctx} {w:World}

theorem add_none (b o j:Nat):(⟨b,o,none⟩:Addr).add j=⟨b,o + j,none⟩:=by
  unfold Addr.add
  split
  · rename_i h; subst h; rfl
  · rfl
theorem holds_cells {b:Nat} {us vs:List Value} {e:TypeId} {fr:Nat × Nat} (h:w.heap[b]? = some (.cells (us ++ vs).toArray e fr)):Holds w b 0 us:=by
  intro i x hi
  simp only [World.cell?,h,Nat.zero_add]
  have hl:i < us.length:=(List.getElem?_eq_some_iff.1 hi).1
  simp [List.getElem?_append_left hl,hi]
theorem RowIs.imp {id n:Nat} {p q:Nat→Nat→Prop} (h:RowIs C id n p) (k:∀ b c,p b c→q b c):RowIs C id n q:=by
  unfold RowIs at h ⊢
  split at h
  · exact ⟨h.1,fun e=>k _ _ (h.2 e)⟩
  · exact ⟨h.1,fun e=>k _ _ (h.2 e)⟩
  · exact ⟨h.1,fun e=>k _ _ (h.2 e)⟩
  · exact h
  · exact h.elim

theorem cellsAt_run {a:AV} {u:Value} {cs:List AV} (hs:SOk C w) (h:cellsAt C.σ a=some cs) (hr:Rep C w a u) :
    ∃ b o us,u = .pointer (some ⟨b,o,none⟩)∧Holds w b o us∧RepAll C w cs us∧allOne cs:=by
  unfold cellsAt at h
  split at h
  · rename_i id off
    simp only [Rep] at hr
    obtain ⟨_,rfl⟩:=hr
    split at h
    · rename_i cs' ho
      simp only [Option.some.injEq] at h
      subst h
      obtain ⟨h1,us,e,h2,_,h3⟩:=hs.ob id _ ho
      have hh:Holds w (C.φ id) 0 us:=holds_cells (vs:=[]) (by simpa using h2)
      have:=holds_drop off hh
      rw [Nat.zero_add] at this
      exact ⟨_,_,us.drop off,rfl,this,h3.drop off,h1.drop off⟩
    · cases h
  · rename_i id n off
    simp only [Rep] at hr
    obtain ⟨_,hr⟩:=hr
    unfold RowIs at hr
    split at h
    · rename_i n' sz cs' ho
      split at h
      · rename_i hn
        subst hn
        simp only [Option.some.injEq] at h
        subst h
        rw [ho] at hr
        obtain ⟨h0,h1,_,_,us,vs,e,h2,_,h3⟩:=hs.ob id _ ho
        have:=holds_drop off (holds_cells h2)
        rw [Nat.zero_add] at this
        exact ⟨_,_,us.drop off,hr.2 rfl,this,h3.drop off,h1.drop off⟩
      · cases h
    · rename_i n' sz cs' ho
      split at h
      · rename_i hn
        subst hn
        simp only [Option.some.injEq] at h
        subst h
        rw [ho] at hr
        obtain ⟨h0,h1,_,_,_,_,us,h2,h3⟩:=hs.ob id _ ho
        have:=holds_drop off h2
        rw [Nat.zero_add] at this
        exact ⟨_,_,us.drop off,hr.2 rfl,this,h3.drop off,h1.drop off⟩
      · cases h
    · cases h
  · simp only [Option.some.injEq] at h
    subst h
    simp only [Rep] at hr
    obtain ⟨h1,b,o,us,rfl,_,_,h2,h3⟩:=hr
    exact ⟨b,o,us,rfl,h2,h3,h1⟩
  · cases h

theorem loadv_run {t:TypeId} {a v:AV} {u:Value} (hs:SOk C w) (h:loadv P t C.σ a=some v) (hr:Rep C w a u):∃ z,(Instr.loadAt t u).run P w = .ok z w∧Rep C w v z:=by
  unfold loadv at h
  split at h
  · rename_i cs hc
    obtain ⟨b,o,us,rfl,hh,h3,h1⟩:=cellsAt_run hs hc hr
    unfold partOf at h
    have agg : ∀ d, P.underlying t = some d → aggD d = true → 0 + P.cellsOf t ≤ cs.length → v = .agg ((cs.drop 0).take (P.cellsOf t)) → ∃ z, (Instr.loadAt t (.pointer (some ⟨b, o, none⟩))).run P w = .ok z w ∧ Rep C w v z := by
      intro d hu hd hl hv
      subst hv
      rw [List.drop_zero]
      refine ⟨.agg (us.take (P.cellsOf t)).toArray,?_,?_⟩
      · simp only [Instr.loadAt, Instr.sureAddr, Sem.run_bind, Sem.run_pure, Result.andThen, loadVar, isAgg_run hu, hd, if_true, run_size_und hu]
        have hlen : (us.take (P.cellsOf t)).length = P.cellsOf t := by
          rw [List.length_take,← h3.length]; omega
        have:=run_loadCells_list (P:=P) w ⟨b,o,none⟩ (us.take (P.cellsOf t)) (fun j x hx=>by rw [add_none]; exact holds_take _ hh j x hx)
        rw [hlen] at this
        rw [this]
      · simp only [Rep]
        exact ⟨h1.take _,_,rfl,h3.take _⟩
    split at h
    · rename_i fs hu
      split at h
      · simp only [Option.some.injEq] at h
        exact agg _ hu rfl (by assumption) h.symm
      · cases h
    · rename_i l e hu
      split at h
      · simp only [Option.some.injEq] at h
        exact agg _ hu rfl (by assumption) h.symm
      · cases h
    · rename_i d n1 n2 hu
      obtain ⟨z,h4,h5⟩:=h3.get 0 v h
      have hc:=hh 0 z h4
      rw [Nat.add_zero] at hc
      refine ⟨z,?_,h5⟩
      have hd : aggD d = false := by
        cases d <;> first
          | exact absurd rfl (n1 _)
          | exact absurd rfl (n2 _ _)
          | rfl
      simp only [Instr.loadAt,Instr.sureAddr,Sem.run_bind,Sem.run_pure,Result.andThen,loadVar,isAgg_run hu,hd,Bool.false_eq_true,if_false,run_load,hc]
    · cases h
  · cases h

theorem addrAdd_run {k:Nat} {x v:AV} {u:Value} (h:addrAdd k x=some v) (hr:Rep C w x u):∃ b o,u = .pointer (some ⟨b,o,none⟩)∧Rep C w v (.pointer (some ⟨b,o + k,none⟩)):=by
  unfold addrAdd at h
  split at h
  · simp only [Option.some.injEq] at h
    subst h
    simp only [Rep] at hr ⊢
    obtain ⟨h1,rfl⟩:=hr
    exact ⟨_,_,rfl,h1,rfl⟩
  · simp only [Option.some.injEq] at h
    subst h
    simp only [Rep] at hr ⊢
    obtain ⟨⟨b,o,rfl⟩,h1⟩:=hr
    refine ⟨_,_,rfl,⟨_,_,rfl⟩,h1.imp fun b c e => ?_⟩
    simp only [Value.pointer.injEq,Option.some.injEq,Addr.mk.injEq] at e ⊢
    exact ⟨e.1,by omega,trivial⟩
  · split at h
    · simp only [Option.some.injEq] at h
      subst h
      simp only [Rep] at hr ⊢
      obtain ⟨h1,b,o,us,rfl,h2,h3,h4,h5⟩:=hr
      exact ⟨_,_,rfl,h1.drop _,_,_,_,rfl,h2,h3,holds_drop _ h4,h5.drop _⟩
    · cases h
  · cases h
theorem fieldAddrv_run {t:TypeId} {x v:AV} {f:Nat} {u:Value} (h:fieldAddrv P t x f=some v) (hr:Rep C w x u):∃ z,(Instr.fieldAt t u f).run P w = .ok z w∧Rep C w v z:=by
  unfold fieldAddrv at h
  split at h
  · rename_i fs hu
    split at h
    · rename_i fd hf
      split at h
      · cases h
      · rename_i hz
        obtain ⟨b,o,rfl,h1⟩:=addrAdd_run h hr
        have hi : (P.info? fd.type).isSome = true := by
          cases hi:P.info? fd.type with
          | none=>exact absurd (by simp [Program.cellsOf,hi]) hz
          | some i=>rfl
        refine ⟨_,?_,h1⟩
        simp only [Instr.fieldAt,Sem.run_bind,run_und hu,Result.andThen,hf,Instr.sureAddr,Sem.run_pure,fieldPlace,run_size hi,hz,if_false,add_none]
    · cases h
  · cases h
theorem indexAddrv_run {t:TypeId} {x i v:AV} {u ui:Value} (hs:SOk C w) (h:indexAddrv P t C.σ x i=some v) (hr:Rep C w x u) (hi:Rep C w i ui):∃ z,(Instr.indexAt t u ui).run P w = .ok z w∧Rep C w v z:=by
  unfold indexAddrv at h
  split at h
  · rename_i e k n sz cs ik j hu
    split at h
    · rename_i hc
      obtain ⟨hj0,hj,hsz,hinf⟩:=hc
      simp only [Option.some.injEq] at h
      subst h
      simp only [Rep] at hr hi
      subst hi
      obtain ⟨h1,h2,a,cap,rfl,_,_,_,_,h3⟩:=hr
      obtain ⟨b,o,us,rfl,h4,h5,h6,h7⟩:=h3 (by omega)
      refine ⟨.pointer (some ⟨b,o + j.toNat * sz,none⟩),?_,?_⟩
      · simp only [Instr.indexAt,Sem.run_bind,asIntOf,Sem.run_pure,Result.andThen,run_und hu,hj0,hj,and_self,if_true,run_size hinf,add_none,hsz]
      · simp only [Rep]
        exact ⟨h2.drop _,b,_,_,rfl,h4,h5,holds_drop _ h6,h7.drop _⟩
    · cases h
  · rename_i e id n ik j hu
    simp only [Rep] at hr hi
    subst hi
    obtain ⟨⟨a,c,rfl⟩,hr⟩:=hr
    have go : ∀ sz, 0 ≤ j → j < n → sz = P.cellsOf e → (P.info? e).isSome = true → RowIs C id n (fun b c' => Value.slice a n c = .slice (some ⟨b, 0, none⟩) n c') → (∃ b, a = some ⟨b, 0, none⟩) →
        ∃ z,(Instr.indexAt t (.slice a n c) (.int ik j)).run P w = .ok z w∧Rep C w (.eref id n (j.toNat * sz)) z:=by
      intro sz hj0 hj hsz hinf hrow ⟨b,hb⟩
      subst hb
      refine ⟨.pointer (some ⟨b,j.toNat * sz,none⟩),?_,?_⟩
      · simp only [Instr.indexAt,Sem.run_bind,asIntOf,Sem.run_pure,Result.andThen,run_und hu,hj0,hj,and_self,if_true,run_size hinf,add_none,hsz,Nat.zero_add]
      · simp only [Rep]
        refine ⟨⟨_,_,rfl⟩,hrow.imp fun b' c' e => ?_⟩
        simp only [Value.slice.injEq,Option.some.injEq,Addr.mk.injEq,and_true,true_and] at e
        rw [e.1]
    have hr' := hr
    unfold RowIs at hr'
    split at h
    · rename_i n' sz cs ho
      split at h
      · rename_i hc
        obtain ⟨hn,hj0,hj,hsz,hinf⟩:=hc
        simp only [Option.some.injEq] at h
        subst h
        rw [ho] at hr'
        have:=hr'.2 hn.symm
        simp only [Value.slice.injEq] at this
        exact go sz hj0 hj hsz hinf hr ⟨_,this.1⟩
      · cases h
    · rename_i n' sz cs ho
      split at h
      · rename_i hc
        obtain ⟨hn,hj0,hj,hsz,hinf⟩:=hc
        simp only [Option.some.injEq] at h
        subst h
        rw [ho] at hr'
        have:=hr'.2 hn.symm
        simp only [Value.slice.injEq] at this
        exact go sz hj0 hj hsz hinf hr ⟨_,this.1⟩
      · cases h
    · cases h
  · rename_i len e k j _ _ hu
    split at h
    · rename_i hc
      obtain ⟨hj0,hj,hinf⟩:=hc
      simp only [Rep] at hi
      subst hi
      obtain ⟨b,o,rfl,h1⟩:=addrAdd_run h hr
      refine ⟨_,?_,h1⟩
      simp only [Instr.indexAt,Sem.run_bind,asIntOf,Sem.run_pure,Result.andThen,run_und hu,Instr.sureAddr,hj0,hj,and_self,if_true,run_size hinf,add_none]
    · cases h
  · cases h
end Go.Vm
end
/- Each plain operation does what the evaluator says, fourth part: cuts, literals of structs, maps. -/
section
namespace Go.Vm
open Go.RowKit (Below)
variable [Fixed]
variable {P:Program} {C:Ctx} {w:World}

def OptRep (C:Ctx) (w:World):Option AV→Option Value→Prop
  | none,none=>True
  | some v,some u=>Rep C w v u
  | _,_=>False

theorem bound_some {d top r y:Nat} {v:AV} {u:Value} {code:BoundsCode} (h:boundv d top (some v)=some r) (hr:Rep C w v u) (hy:top ≤ y):(Instr.sliceBound u y code).run P w = .ok r w:=by
  unfold boundv at h
  split at h
  · rename_i e; cases e
  · rename_i k i e
    simp only [Option.some.injEq] at e
    subst e
    simp only [Rep] at hr
    subst hr
    split at h
    · rename_i hi
      simp only [Option.some.injEq] at h
      subst h
      have:0 ≤ i∧i ≤ y:=⟨hi.1,by omega⟩
      simp [Instr.sliceBound,asIntOf,this]
    · cases h
  · cases h
theorem boundv_le {d top r:Nat} {x:Option AV} (h:boundv d top x=some r) (hd:d ≤ top):r ≤ top:=by
  unfold boundv at h
  split at h
  · simp only [Option.some.injEq] at h; omega
  · split at h
    · simp only [Option.some.injEq] at h; omega
    · cases h
  · cases h

theorem bounds_run {n cap m h l:Nat} {lo hi mx:Option AV} {ulo uhi umx:Option Value} {isS:Bool} (hm:boundv n n mx=some m) (hh:boundv n m hi=some h) (hl:boundv 0 h lo=some l)
    (rl:OptRep C w lo ulo) (rh:OptRep C w hi uhi) (rm:OptRep C w mx umx) (hc:n ≤ cap) (hx:mx.isSome→hi.isSome) :
    (Instr.sliceBounds isS n cap ulo uhi umx).run P w = .ok (l,h,if mx.isSome then m else cap) w:=by
  cases mx with
  | some xm =>
    cases umx with
    | none=>exact rm.elim
    | some um =>
      cases hi with
      | none=>exact absurd (hx rfl) (by simp)
      | some xh =>
        cases uhi with
        | none=>exact rh.elim
        | some uh =>
          cases lo with
          | none =>
            cases ulo with
            | some _=>exact rl.elim
            | none =>
              simp only [boundv,Option.some.injEq] at hl
              subst hl
              simp [Instr.sliceBounds,bound_some hm rm hc,bound_some hh rh (Nat.le_refl _)]
          | some xl =>
            cases ulo with
            | none=>exact rl.elim
            | some ul=>simp [Instr.sliceBounds,bound_some hm rm hc,bound_some hh rh (Nat.le_refl _),bound_some hl rl (Nat.le_refl _)]
  | none =>
    cases umx with
    | some _=>exact rm.elim
    | none =>
      simp only [boundv,Option.some.injEq] at hm
      subst hm
      cases hi with
      | none =>
        cases uhi with
        | some _=>exact rh.elim
        | none =>
          simp only [boundv,Option.some.injEq] at hh
          subst hh
          cases lo with
          | none =>
            cases ulo with
            | some _=>exact rl.elim
            | none =>
              simp only [boundv,Option.some.injEq] at hl
              subst hl
              simp [Instr.sliceBounds]
          | some xl =>
            cases ulo with
            | none=>exact rl.elim
            | some ul=>simp [Instr.sliceBounds,bound_some hl rl (Nat.le_refl _)]
      | some xh =>
        cases uhi with
        | none=>exact rh.elim
        | some uh =>
          cases lo with
          | none =>
            cases ulo with
            | some _=>exact rl.elim
            | none =>
              simp only [boundv,Option.some.injEq] at hl
              subst hl
              simp [Instr.sliceBounds,bound_some hh rh hc]
          | some xl =>
            cases ulo with
            | none=>exact rl.elim
            | some ul=>simp [Instr.sliceBounds,bound_some hh rh hc,bound_some hl rl (Nat.le_refl _)]

theorem slicev_run {t:TypeId} {x v:AV} {u:Value} {lo hi mx:Option AV} {ulo uhi umx:Option Value} (h:slicev P t x lo hi mx=some v) (hr:Rep C w x u)
    (rl:OptRep C w lo ulo) (rh:OptRep C w hi uhi) (rm:OptRep C w mx umx):∃ z,(Instr.sliceAt t u ulo uhi umx).run P w = .ok z w∧Rep C w v z:=by
  unfold slicev at h
  split at h
  · rename_i s hu
    simp only [Rep] at hr
    subst hr
    split at h
    · cases h
    · cases umx with
      | some _=>exact rm.elim
      | none =>
        split at h
        · rename_i hh eh
          split at h
          · rename_i ll el
            simp only [Option.some.injEq] at h
            subst h
            refine ⟨.string (s.extract ll hh),?_,by simp only [Rep]⟩
            have hb:=bounds_run (P:=P) (isS:=false) (cap:=s.size) (n:=s.size) (m:=s.size) (mx:=none) (umx:=none) rfl eh el rl rh trivial (Nat.le_refl _) (by simp)
            have e : (Instr.sliceAt t (.string s) ulo uhi none).run P w = (Instr.slice t (.string s) ulo uhi none).run P w := by
              simp only [Instr.sliceAt,Sem.run_bind,run_und hu,Result.andThen]
            rw [e]
            simp [Instr.slice,run_und hu,hb]
          · cases h
        · cases h
  · rename_i e k n sz cs hu
    simp only [Rep] at hr
    obtain ⟨h0,h1,a,cap,rfl,h2,h3,h4,h5,h6⟩:=hr
    split at h
    · rename_i hc
      obtain ⟨hsz,hinf,hmx⟩:=hc
      split at h
      · rename_i m em
        split at h
        · rename_i hh eh
          split at h
          · rename_i ll el
            simp only [Option.some.injEq] at h
            have hb:=bounds_run (P:=P) (isS:=true) em eh el rl rh rm h2 hmx
            have lm:m ≤ n:=boundv_le em (Nat.le_refl _)
            have lh : hh ≤ m := by
              cases hi with
              | none =>
                cases mx with
                | some _=>exact absurd (hmx rfl) (by simp)
                | none=>simp only [boundv,Option.some.injEq] at em eh; omega
              | some xh =>
                unfold boundv at eh
                split at eh
                · rename_i e; cases e
                · split at eh
                  · simp only [Option.some.injEq] at eh; omega
                  · cases eh
                · cases eh
            have ll' : ll ≤ hh:=boundv_le el (by omega)
            generalize hM:(if mx.isSome then m else cap)=M at hb
            have hM1:hh ≤ M:=by subst hM; split <;> omega
            have hM2:M ≤ cap:=by subst hM; split <;> omega
            have e1 : (Instr.sliceAt t (.slice a n cap) ulo uhi umx).run P w = .ok (.slice (if M = ll then a else a.map (·.add (ll * P.cellsOf e))) (hh - ll) (M - ll)) w := by
              have : (Instr.sliceAt t (.slice a n cap) ulo uhi umx).run P w = (Instr.slice t (.slice a n cap) ulo uhi umx).run P w := by
                simp only [Instr.sliceAt,Sem.run_bind,run_und hu,Result.andThen]
              rw [this]
              simp only [Instr.slice,Sem.run_bind,run_und hu,Result.andThen,hb,run_size hinf,Sem.run_pure]
            refine ⟨_,e1,?_⟩
            subst h
            simp only [Rep]
            have hlen : (List.drop (ll * sz) (List.take (hh * sz) cs)).length = (hh - ll) * sz := by
              rw [List.length_drop,List.length_take,h0,Nat.min_eq_left (Nat.mul_le_mul_right _ (by omega)),Nat.sub_mul]
            refine ⟨hlen,(h1.take _).drop _,_,_,rfl,by omega,by omega,?_,?_,?_⟩
            · intro hk
              split at hk
              · cases hk
              · split at hk
                · rename_i hcl
                  obtain ⟨hor,hhm,_⟩:=hcl
                  subst hM
                  rcases hor with hor | hor
                  · rw [if_pos hor]; omega
                  · have := h4 hor
                    cases mx with
                    | some _=>simp only [Option.isSome_some,if_true]; omega
                    | none =>
                      simp only [boundv,Option.some.injEq] at em
                      simp only [Option.isSome_none,Bool.false_eq_true,if_false]; omega
                · cases hk
            · intro hk
              split at hk
              · rename_i hkn
                obtain ⟨ha,hcap⟩:=h5 hkn
                subst ha
                exact ⟨by split <;> rfl,by omega⟩
              · split at hk <;> cases hk
            · intro hpos
              obtain ⟨b,o,us,rfl,k2,k3,k4,k5⟩:=h6 (by omega)
              have hsz' : sz=P.cellsOf e:=hsz.resolve_left (by omega)
              rw [if_neg (by omega)]
              simp only [Option.map_some,add_none,← hsz']
              exact ⟨b,_,_,rfl,k2,k3,holds_drop _ (holds_take _ k4),(k5.take _).drop _⟩
          · cases h
        · cases h
      · cases h
    · cases h
  · cases h

/-! ### literals -/
theorem set_overlay (us:List Value) (k:Nat) (c:Value) (l:List Value) (h:k + 1 + l.length ≤ us.length) :
    (us.set k c).take (k + 1) ++ l ++ (us.set k c).drop (k + 1 + l.length)=us.take k ++ (c::l) ++ us.drop (k + (c::l).length):=by
  have hk:k < us.length:=by omega
  rw [List.drop_set_of_lt (by omega)]
  have : (us.set k c).take (k + 1) = us.take k ++ [c] := by
    rw [List.set_eq_take_append_cons_drop,if_pos hk,List.take_append]
    simp [List.length_take,Nat.min_eq_left (Nat.le_of_lt hk),List.take_take]
  rw [this]
  simp [Nat.add_assoc,Nat.add_comm 1]
theorem foldl_overlay (off:Nat):∀ (l:List Value) (s:Nat) (us:List Value),off + s + l.length ≤ us.length →
    (l.zipIdx s).foldl (fun cs (x:Value × Nat)=>cs.setIfInBounds (off + x.2) x.1) us.toArray=(us.take (off + s) ++ l ++ us.drop (off + s + l.length)).toArray
  | [],s,us,h=>by simp
  | c :: l, s, us, h => by
    rw [List.zipIdx_cons,List.foldl_cons]
    simp only [List.length_cons] at h
    have e:us.toArray.setIfInBounds (off + s) c=(us.set (off + s) c).toArray:=by simp
    rw [e,foldl_overlay off l (s + 1) _ (by simp only [List.length_set]; omega)]
    congr 1
    have:=set_overlay us (off + s) c l (by omega)
    rw [← this]
    rw [show off + (s + 1)=off + s + 1 from by omega]
theorem fill_step (off:Nat) (vs us:Array Value) (h:off + vs.size ≤ us.size) :
    vs.zipIdx.foldl (fun cs (x:Value × Nat)=>cs.setIfInBounds (off + x.2) x.1) us=(us.toList.take off ++ vs.toList ++ us.toList.drop (off + vs.size)).toArray:=by
  have:=foldl_overlay off vs.toList 0 us.toList (by simpa using h)
  rw [← Array.foldl_toList,Array.toList_zipIdx]
  simpa using this

theorem overlay_rep {cs vs:List AV} {us ws:List Value} {o:Nat} (h:RepAll C w cs us) (k:RepAll C w vs ws):RepAll C w (overlay cs o vs) (us.take o ++ ws ++ us.drop (o + ws.length)):=by
  unfold overlay
  rw [k.length]
  exact ((h.take _).append k).append (h.drop _)
theorem overlay_one {cs vs:List AV} {o:Nat} (h:allOne cs) (k:allOne vs):allOne (overlay cs o vs):=((h.take _).append k).append (h.drop _)

def RepParts (C:Ctx) (w:World):List (Nat × AV)→List (Nat × Value)→Prop
  | [],[]=>True
  | x::xs,y::ys=>(x.1=y.1∧Rep C w x.2 y.2)∧RepParts C w xs ys
  | _,_=>False

theorem Rep.cells' {v:AV} {u:Value} (h:Rep C w v u) (ho:v.flat=true):RepAll C w v.cells u.cells.toList∧allOne v.cells:=by
  apply h.cells
  cases v <;> simp_all [AV.flat,AV.one]

theorem overlay_length {cs vs:List AV} {o:Nat} (h:o + vs.length ≤ cs.length):(overlay cs o vs).length=cs.length:=by
  simp only [overlay,List.length_append,List.length_take,List.length_drop]
  omega
theorem fillv_length {place:Nat→Option (Nat × Nat)}:∀ {parts:List (Nat × AV)} {cs cs' : List AV},fillv place cs parts=some cs' → cs'.length=cs.length
  | [],cs,cs',h=>by simp only [fillv,Option.some.injEq] at h; rw [h]
  | (i, v) :: parts, cs, cs', h => by
    simp only [fillv] at h
    split at h
    · cases h
    · split at h
      · rename_i hc
        rw [fillv_length h,overlay_length (by omega)]
      · cases h
theorem fillv_run {place place' : Nat→Option (Nat × Nat)} (hp:∀ i,place' i=place i):∀ (parts:List (Nat × AV)) (ups:List (Nat × Value)) (cs cs' : List AV) (us:List Value),fillv place cs parts=some cs' →
    RepAll C w cs us→allOne cs→RepParts C w parts ups→∃ us',Instr.fill place' us.toArray ups=some us'.toArray∧RepAll C w cs' us' ∧ allOne cs'
  | [], ups, cs, cs', us, h, hr, ho, hq => by
    cases ups with
    | cons _ _=>exact hq.elim
    | nil =>
      simp only [fillv,Option.some.injEq] at h
      subst h
      exact ⟨us,rfl,hr,ho⟩
  | (i, v) :: parts, ups, cs, cs', us, h, hr, ho, hq => by
    cases ups with
    | nil=>exact hq.elim
    | cons y ups =>
      obtain ⟨j,u⟩:=y
      obtain ⟨⟨hij,hv⟩,hq⟩:=hq
      simp only at hij hv
      subst hij
      simp only [fillv] at h
      split at h
      · cases h
      · rename_i off size hpl
        split at h
        · rename_i hc
          obtain ⟨hc0,hc1,hc2⟩:=hc
          obtain ⟨hv1,hv2⟩:=hv.cells' hc0
          have hl:v.cells.length=u.cells.size:=by rw [hv1.length]; simp
          have hle:off + u.cells.size ≤ us.length:=by rw [← hr.length]; omega
          obtain ⟨us',h1,h2,h3⟩:=fillv_run hp parts ups _ cs' (us.take off ++ u.cells.toList ++ us.drop (off + u.cells.toList.length)) h (overlay_rep hr hv1) (overlay_one ho hv2) hq
          refine ⟨us',?_,h2,h3⟩
          simp only [Instr.fill,hp,hpl]
          rw [if_neg (by simp; omega)]
          rw [fill_step off u.cells us.toArray (by simpa using hle)]
          simpa using h1
        · cases h
theorem ofVal_flat {u:Value} {v:AV} (h:AV.ofVal u=some v):v.flat=true:=by
  unfold AV.ofVal at h
  split at h <;> first
    | (cases h; rfl)
    | (cases h; done)
    | (split at h
       · cases h; rfl
       · cases h)
theorem zerov_run {t:TypeId} {z:AV} (h:zerov P t=some z):∃ i zv,P.info? t=some i∧i.zero=some zv∧(zeroValue t).run P w = .ok zv w∧Rep C w z zv∧z.flat=true:=by
  unfold zerov at h
  split at h
  · rename_i i hi
    split at h
    · rename_i zv hz
      refine ⟨i,zv,hi,hz,?_,ofVal_rep C w zv z h,?_⟩
      · simp [zeroValue,run_info hi,hz]
      · exact ofVal_flat h
    · cases h
  · cases h
theorem mapM_places {w:World}:∀ (fs:List Field),(fs.all fun f=>(P.info? f.type).isSome)=true→(fs.mapM (fun (f:Field)=>(do pure (f.offset,← sizeOf f.type):Sem (Nat × Nat)))).run P w = .ok (fs.map fun f:Field=>(f.offset,P.cellsOf f.type)) w
  | [],_=>rfl
  | f :: fs, h => by
    simp only [List.all_cons,Bool.and_eq_true] at h
    rw [List.mapM_cons]
    simp only [Sem.run_bind,run_size h.1,Result.andThen,Sem.run_pure,mapM_places fs h.2,List.map_cons]
theorem buildv_run {t:TypeId} {parts:List (Nat × AV)} {ups:Array (Nat × Value)} {v:AV} (h:buildv P t parts=some v) (hq:RepParts C w parts ups.toList):∃ z,(Instr.build t ups).run P w = .ok z w∧Rep C w v z:=by
  unfold buildv at h
  split at h
  · rename_i fs z hu hz
    obtain ⟨i,zv,_,_,h1,h2,h3⟩:=zerov_run (C:=C) (w:=w) hz
    split at h
    · cases h
    · rename_i hall
      have hall:(fs.all fun f=>(P.info? f.type).isSome)=true:=Decidable.not_not.1 hall
      rw [← Array.all_toList] at hall
      split at h
      · rename_i cs hcs
        simp only [Option.some.injEq] at h
        subst h
        obtain ⟨k1,k2⟩:=h2.cells' h3
        have hp : ∀ i : Nat, (fs.toList.map fun f : Field => (f.offset, P.cellsOf f.type)).toArray[i]? = (match fs[i]? with | some f => some (f.offset, P.cellsOf f.type) | none => none) := by
          intro i
          rw [← Array.getElem?_toList (xs:=fs)]
          simp only [List.getElem?_toArray,List.getElem?_map]
          cases fs.toList[i]? <;> rfl
        obtain ⟨us',m1,m2,m3⟩:=fillv_run hp parts ups.toList _ _ _ hcs k1 k2 hq
        refine ⟨.agg us'.toArray,?_,?_⟩
        · have e : (fs.mapM (fun (f : Field) => (do pure (f.offset, ← sizeOf f.type) : Sem (Nat × Nat)))).run P w = .ok (fs.toList.map fun f : Field => (f.offset, P.cellsOf f.type)).toArray w := by
            rw [← Array.toArray_toList (xs:=fs),List.mapM_toArray]
            rw [Sem.run_map,mapM_places _ hall]
            rfl
          simp only [Instr.build,Sem.run_bind,h1,Result.andThen,run_und hu]
          rw [e]
          have m1' : Instr.fill (fun x => (fs.toList.map fun f : Field => (f.offset, P.cellsOf f.type)).toArray[x]?) zv.cells ups.toList = some us'.toArray := by
            rw [Array.toArray_toList] at m1
            exact m1
          simp only [m1',Sem.run_pure]
        · simp only [Rep]
          exact ⟨m3,_,rfl,m2⟩
      · cases h
  · rename_i l e z hu hz
    obtain ⟨i,zv,_,_,h1,h2,h3⟩:=zerov_run (C:=C) (w:=w) hz
    split at h
    · cases h
    · rename_i hinf
      have hinf:(P.info? e).isSome=true:=Decidable.not_not.1 hinf
      split at h
      · rename_i cs hcs
        simp only [Option.some.injEq] at h
        subst h
        obtain ⟨k1,k2⟩:=h2.cells' h3
        obtain ⟨us',m1,m2,m3⟩:=fillv_run (fun _=>rfl) parts ups.toList _ _ _ hcs k1 k2 hq
        refine ⟨.agg us'.toArray,?_,?_⟩
        · have m1' : Instr.fill (fun i => some (i * P.cellsOf e, P.cellsOf e)) zv.cells ups.toList = some us'.toArray := by simpa using m1
          simp only [Instr.build,Sem.run_bind,h1,Result.andThen,run_und hu,run_size hinf,m1',Sem.run_pure]
        · simp only [Rep]
          exact ⟨m3,_,rfl,m2⟩
      · cases h
  · cases h
end Go.Vm
end
/- One object of the store turns, or comes to be. -/
section
namespace Go.Vm
open Go.RowKit (Below)
variable [Fixed]
variable {P:Program} {C:Ctx} {w:World}

def upd (f:Nat→Nat) (i x:Nat):Nat→Nat:=fun j=>if j=i then x else f j
theorem upd_same (f:Nat→Nat) (i x:Nat):upd f i x i=x:=by simp [upd]
theorem upd_other (f:Nat→Nat) {i j:Nat} (x:Nat) (h:j ≠ i):upd f i x j=f j:=by simp [upd,h]
theorem upd_self (f:Nat→Nat) (i:Nat):upd f i (f i)=f:=by
  funext j
  by_cases h:j=i
  · subst h; simp [upd]
  · simp [upd,h]

theorem setOb_same:∀ {σ:List Ob} {id:Nat} {o:Ob} (o' : Ob),σ[id]? = some o→(setOb σ id o')[id]? = some o'
  | _::_,0,_,_,_=>rfl
  | _::l,i + 1,_,o',h=>by simp only [setOb,List.getElem?_cons_succ] at h ⊢; exact setOb_same o' h
  | [],_,_,_,h=>by simp at h
theorem setOb_other:∀ {σ:List Ob} {id j:Nat} (o' : Ob),j ≠ id→(setOb σ id o')[j]? = σ[j]?
  | [],_,_,_,_=>rfl
  | _::_,0,0,_,h=>absurd rfl h
  | _::_,0,j + 1,_,_=>rfl
  | _::_,i + 1,0,_,_=>rfl
  | _::l,i + 1,j + 1,o',h=>by simp only [setOb,List.getElem?_cons_succ]; exact setOb_other o' (by omega)
theorem setOb_length:∀ (σ:List Ob) (id:Nat) (o' : Ob),(setOb σ id o').length=σ.length
  | [],_,_=>rfl
  | _::_,0,_=>rfl
  | _::l,i + 1,o' => by simp [setOb,setOb_length l i o']

theorem RepEs.mono {C' : Ctx} {w' : World} (hk:Keeps C w C' w'):∀ {es:List (AV × AV)} {ms:List MapEntry},RepEs C w es ms→RepEs C' w' es ms
  | [],[],_=>trivial
  | e::es,m::ms,h=>⟨⟨h.1.1,Rep.mono hk _ _ h.1.2⟩,Rep.mono hk _ _ h.2.1,RepEs.mono hk h.2.2⟩
  | [],_::_,h=>h.elim
  | _::_,[],h=>h.elim

theorem ObOk.mono {C' : Ctx} {w' : World} {b cap:Nat} {o:Ob} (hk:Keeps C w C' w') (hb:o.live→w'.heap[b]? = w.heap[b]?) (h:ObOk C w b cap o):ObOk C' w' b cap o:=by
  cases o with
  | cells cs =>
    obtain ⟨h1,us,e,h2,ht,h3⟩:=h
    exact ⟨h1,us,e,by rw [hb trivial]; exact h2,ht,RepAll.mono hk _ _ h3⟩
  | arr n sz cs =>
    obtain ⟨h0,h1,hn,hm,us,vs,e,h2,h4,h3⟩:=h
    exact ⟨h0,h1,hn,hm,us,vs,e,by rw [hb trivial]; exact h2,h4,RepAll.mono hk _ _ h3⟩
  | fro n sz cs =>
    obtain ⟨h0,h1,hn,hm,hlt,hmu,us,h2,h3⟩:=h
    exact ⟨h0,h1,hn,hm,Nat.lt_of_lt_of_le hlt hk.size,fun e=>hmu (hk.may b hlt e),us,holds_block (hk.blk b hlt hmu) h2,RepAll.mono hk _ _ h3⟩
  | mapo es =>
    obtain ⟨ms,cl,h1,hst,h2⟩:=h
    exact ⟨ms,cl,by rw [hb trivial]; exact h1,hst,h2.mono hk⟩
  | gone=>trivial
  | brow t l =>
    obtain ⟨h1,h2,vs,h3,h4⟩:=h
    exact ⟨h1,h2,vs,by rw [hb trivial]; exact h3,h4⟩

def Ctx.put (C:Ctx) (id:Nat) (o:Ob) (b c:Nat):Ctx:=⟨setOb C.σ id o,upd C.φ id b,upd C.κ id c,C.forb⟩
def Ctx.add (C:Ctx) (o:Ob) (b c:Nat):Ctx:=⟨C.σ ++ [o],upd C.φ C.σ.length b,upd C.κ C.σ.length c,C.forb⟩

theorem mut_put {id b c x:Nat} {o o' : Ob} (ho:C.σ[id]? = some o) (hl:o.live) (hb:b=C.φ id ∨ w.heap.size ≤ b) (hx:x < w.heap.size) (h:Mut (C.put id o' b c) x):Mut C x:=by
  rcases h with h | ⟨j,oj,hj,hlj,hp⟩
  · exact .inl h
  · by_cases e : j = id
    · subst e
      simp only [Ctx.put,upd_same] at hp
      subst hp
      rcases hb with rfl | hb
      · exact .inr ⟨_,o,ho,hl,rfl⟩
      · omega
    · simp only [Ctx.put, upd_other _ _ e] at hp hj
      rw [setOb_other _ e] at hj
      exact .inr ⟨j,oj,hj,hlj,hp⟩

theorem turn_one (hs:SOk C w) {ro id b c:Nat} {o o' : Ob} {w' : World} (ho:C.σ[id]? = some o) (hl:o.live) (hro:ro ≤ id)
    (hos:w'.os=w.os) (htape:w'.tape=w.tape) (hout:w'.output=w.output) (hsize:w.heap.size ≤ w'.heap.size)
    (hblk:∀ x,x < w.heap.size→x ≠ C.φ id→w'.heap[x]? = w.heap[x]?) (hb:b=C.φ id ∨ w.heap.size ≤ b) (hb' : b < w'.heap.size)
    (ht:Turn o o' (b=C.φ id∧c=C.κ id)) (hob:Keeps C w (C.put id o' b c) w' → ObOk (C.put id o' b c) w' b c o') :
    SOk (C.put id o' b c) w' ∧ Grow ro C w (C.put id o' b c) w' := by
  have hmay:∀ x,x < w.heap.size→Mut (C.put id o' b c) x→Mut C x:=fun x hx h=>mut_put ho hl hb hx h
  have hturn : ∀ j oj, C.σ[j]? = some oj → ∃ oj', (C.put id o' b c).σ[j]? = some oj' ∧ Turn oj oj' ((C.put id o' b c).φ j = C.φ j ∧ (C.put id o' b c).κ j = C.κ j) := by
    intro j oj hj
    by_cases e:j=id
    · subst e
      rw [ho] at hj
      cases hj
      exact ⟨o',setOb_same o' ho,by simpa only [Ctx.put,upd_same] using ht⟩
    · exact ⟨oj,by simp only [Ctx.put]; rw [setOb_other _ e]; exact hj,Turn.refl _ ⟨by simp only [Ctx.put,upd_other _ _ e],by simp only [Ctx.put,upd_other _ _ e]⟩⟩
  have hblk' : ∀ x,x < w.heap.size → ¬ Mut C x→w'.heap[x]? = w.heap[x]? := fun x hx hm=>hblk x hx fun e=>hm (.inr ⟨id,o,ho,hl,e.symm⟩)
  have hk:Keeps C w (C.put id o' b c) w' := ⟨hsize,hblk',hmay,hturn⟩
  have other : ∀ j oj, j ≠ id → (C.put id o' b c).σ[j]? = some oj → C.σ[j]? = some oj ∧ (C.put id o' b c).φ j = C.φ j ∧ (C.put id o' b c).κ j = C.κ j := by
    intro j oj e hj
    simp only [Ctx.put,upd_other _ _ e] at hj ⊢
    rw [setOb_other _ e] at hj
    exact ⟨hj,trivial,trivial⟩
  have same : ∀ oj, (C.put id o' b c).σ[id]? = some oj → oj = o' := by
    intro oj hj
    simp only [Ctx.put,setOb_same o' ho,Option.some.injEq] at hj
    exact hj.symm
  refine ⟨⟨?_,?_,?_,?_,?_,?_⟩,⟨hos,htape,hout,hsize,rfl,?_,hmay,hturn,?_⟩⟩
  · intro j oj hj hlj
    by_cases e:j=id
    · subst e
      simpa only [Ctx.put,upd_same] using hb'
    · obtain ⟨h1, h2, _⟩ := other j oj e hj
      rw [h2]
      exact Nat.lt_of_lt_of_le (hs.blk j oj h1 hlj) hsize
  · intro i j oi oj hi hli hj hlj he
    by_cases e1:i=id
    · by_cases e2 : j = id
      · rw [e1,e2]
      · obtain ⟨h1, h2, _⟩ := other j oj e2 hj
        rw [h2] at he
        subst e1
        simp only [Ctx.put,upd_same] at he
        rcases hb with hb | hb
        · exact hs.inj _ _ _ _ ho hl h1 hlj (hb.symm.trans he)
        · have := hs.blk j oj h1 hlj
          omega
    · obtain ⟨h1, h2, _⟩ := other i oi e1 hi
      rw [h2] at he
      by_cases e2:j=id
      · subst e2
        simp only [Ctx.put,upd_same] at he
        rcases hb with hb | hb
        · exact hs.inj _ _ _ _ h1 hli ho hl (he.trans hb)
        · have := hs.blk i oi h1 hli
          omega
      · obtain ⟨h3, h4, _⟩ := other j oj e2 hj
        rw [h4] at he
        exact hs.inj _ _ _ _ h1 hli h3 hlj he
  · intro j oj hj
    by_cases e:j=id
    · subst e
      rw [same oj hj]
      simpa only [Ctx.put,upd_same] using hob hk
    · obtain ⟨h1, h2, h3⟩ := other j oj e hj
      rw [h2,h3]
      refine ObOk.mono hk (fun hlj=>hblk _ (hs.blk j oj h1 hlj) fun he=>e (hs.inj _ _ _ _ h1 hlj ho hl he)) (hs.ob j oj h1)
  · intro j oj hj hlj hf
    by_cases e:j=id
    · subst e
      simp only [Ctx.put,upd_same] at hf
      rcases hb with rfl | hb
      · exact hs.nof _ _ ho hl hf
      · have := hs.fb b hf
        omega
    · obtain ⟨h1, h2, _⟩ := other j oj e hj
      rw [h2] at hf
      exact hs.nof j oj h1 hlj hf
  · intro x hx
    exact Nat.lt_of_lt_of_le (hs.fb x hx) hsize
  · intro x X hX
    obtain ⟨f1,f2⟩:=hs.fx x X hX
    have hx:x < w.heap.size:=(Array.getElem?_eq_some_iff.1 f1).1
    refine ⟨(hblk x hx (fun e=>f2 id o ho hl e.symm)).trans f1,fun j oj hj hlj => ?_⟩
    by_cases e:j=id
    · subst e
      simp only [Ctx.put,upd_same]
      rcases hb with rfl | hb
      · exact f2 _ _ ho hl
      · omega
    · obtain ⟨h1, h2, _⟩ := other j oj e hj
      rw [h2]
      exact f2 j oj h1 hlj
  · intro x hx hn
    exact hblk x hx fun e=>hn id o hro ho hl e.symm
  · intro j hj
    have e:j ≠ id:=by omega
    simp only [Ctx.put,upd_other _ _ e]
    rw [setOb_other _ e]
    exact ⟨rfl,trivial,trivial⟩

theorem add_get_lt {C:Ctx} {o:Ob} {b c j:Nat} (h:j < C.σ.length):(C.add o b c).σ[j]? = C.σ[j]? ∧ (C.add o b c).φ j=C.φ j∧(C.add o b c).κ j=C.κ j:=by
  simp only [Ctx.add]
  exact ⟨List.getElem?_append_left h,upd_other _ _ (by omega),upd_other _ _ (by omega)⟩
theorem new_one (hs:SOk C w) {ro b c:Nat} {o' : Ob} {w' : World} (hro:ro ≤ C.σ.length)
    (hos:w'.os=w.os) (htape:w'.tape=w.tape) (hout:w'.output=w.output) (hsize:w.heap.size ≤ w'.heap.size)
    (hblk:∀ x,x < w.heap.size→w'.heap[x]? = w.heap[x]?) (hb:w.heap.size ≤ b) (hb' : b < w'.heap.size)
    (hob:Keeps C w (C.add o' b c) w' → ObOk (C.add o' b c) w' b c o') :
    SOk (C.add o' b c) w' ∧ Grow ro C w (C.add o' b c) w' := by
  have low : ∀ j oj, (C.add o' b c).σ[j]? = some oj → (j = C.σ.length ∧ oj = o') ∨ (j < C.σ.length ∧ C.σ[j]? = some oj ∧ (C.add o' b c).φ j = C.φ j ∧ (C.add o' b c).κ j = C.κ j) := by
    intro j oj hj
    by_cases h:j < C.σ.length
    · obtain ⟨h1, h2, h3⟩ := add_get_lt (o := o') (b := b) (c := c) h
      rw [h1] at hj
      exact .inr ⟨h,hj,h2,h3⟩
    · have hl := (List.getElem?_eq_some_iff.1 hj).1
      simp only [Ctx.add,List.length_append,List.length_cons,List.length_nil] at hl
      have e:j=C.σ.length:=by omega
      subst e
      simp only [Ctx.add,List.getElem?_concat_length,Option.some.injEq] at hj
      exact .inl ⟨rfl,hj.symm⟩
  have hnew:(C.add o' b c).φ C.σ.length=b∧(C.add o' b c).κ C.σ.length=c:=by simp only [Ctx.add,upd_same,and_self]
  have hmay : ∀ x, x < w.heap.size → Mut (C.add o' b c) x → Mut C x := by
    intro x hx h
    rcases h with h | ⟨j,oj,hj,hlj,hp⟩
    · exact .inl h
    · rcases low j oj hj with ⟨rfl, rfl⟩ | ⟨_, h1, h2, _⟩
      · rw [hnew.1] at hp; omega
      · exact .inr ⟨j,oj,h1,hlj,by rw [← h2]; exact hp⟩
  have hturn : ∀ j oj, C.σ[j]? = some oj → ∃ oj', (C.add o' b c).σ[j]? = some oj' ∧ Turn oj oj' ((C.add o' b c).φ j = C.φ j ∧ (C.add o' b c).κ j = C.κ j) := by
    intro j oj hj
    obtain ⟨h1,h2,h3⟩:=add_get_lt (o:=o') (b:=b) (c:=c) (List.getElem?_eq_some_iff.1 hj).1
    exact ⟨oj,by rw [h1]; exact hj,Turn.refl _ ⟨h2,h3⟩⟩
  have hk:Keeps C w (C.add o' b c) w' := ⟨hsize,fun x hx _=>hblk x hx,hmay,hturn⟩
  refine ⟨⟨?_,?_,?_,?_,?_,?_⟩,⟨hos,htape,hout,hsize,rfl,fun x hx _=>hblk x hx,hmay,hturn,?_⟩⟩
  · intro j oj hj hlj
    rcases low j oj hj with ⟨rfl,rfl⟩ | ⟨_,h1,h2,_⟩
    · rw [hnew.1]; exact hb'
    · rw [h2]; exact Nat.lt_of_lt_of_le (hs.blk j oj h1 hlj) hsize
  · intro i j oi oj hi hli hj hlj he
    rcases low i oi hi with ⟨rfl,rfl⟩ | ⟨_,h1,h2,_⟩
    · rcases low j oj hj with ⟨rfl, rfl⟩ | ⟨_, h3, h4, _⟩
      · rfl
      · rw [hnew.1, h4] at he
        have:=hs.blk j oj h3 hlj
        omega
    · rcases low j oj hj with ⟨rfl, rfl⟩ | ⟨_, h3, h4, _⟩
      · rw [hnew.1, h2] at he
        have:=hs.blk i oi h1 hli
        omega
      · rw [h2, h4] at he
        exact hs.inj _ _ _ _ h1 hli h3 hlj he
  · intro j oj hj
    rcases low j oj hj with ⟨rfl,rfl⟩ | ⟨_,h1,h2,h3⟩
    · rw [hnew.1,hnew.2]; exact hob hk
    · rw [h2, h3]
      exact ObOk.mono hk (fun hlj=>hblk _ (hs.blk j oj h1 hlj)) (hs.ob j oj h1)
  · intro j oj hj hlj hf
    rcases low j oj hj with ⟨rfl,rfl⟩ | ⟨_,h1,h2,_⟩
    · rw [hnew.1] at hf
      have:=hs.fb b hf
      omega
    · rw [h2] at hf
      exact hs.nof j oj h1 hlj hf
  · intro x hx
    exact Nat.lt_of_lt_of_le (hs.fb x hx) hsize
  · intro x X hX
    obtain ⟨f1,f2⟩:=hs.fx x X hX
    have hx:x < w.heap.size:=(Array.getElem?_eq_some_iff.1 f1).1
    refine ⟨(hblk x hx).trans f1,fun j oj hj hlj => ?_⟩
    rcases low j oj hj with ⟨rfl,rfl⟩ | ⟨_,h1,h2,_⟩
    · rw [hnew.1]; omega
    · rw [h2]; exact f2 j oj h1 hlj
  · intro j hj
    exact add_get_lt (by omega)

/-- A row that is the call's own is read by value from now on. -/
theorem freeze_one (hs:SOk C w) {ro id n sz:Nat} {cs:List AV} (ho:C.σ[id]? = some (.arr n sz cs)) (hro:ro ≤ id) :
    SOk ⟨setOb C.σ id (.fro n sz cs),C.φ,C.κ,C.forb⟩ w∧Grow ro C w ⟨setOb C.σ id (.fro n sz cs),C.φ,C.κ,C.forb⟩ w:=by
  have e:C.put id (.fro n sz cs) (C.φ id) (C.κ id)=⟨setOb C.σ id (.fro n sz cs),C.φ,C.κ,C.forb⟩:=by simp only [Ctx.put,upd_self]
  rw [← e]
  refine turn_one hs ho trivial hro rfl rfl rfl (Nat.le_refl _) (fun _ _ _=>rfl) (.inl rfl) (hs.blk _ _ ho trivial) ?_ ?_
  · exact .inl ⟨n,sz,cs,.inr rfl,Nat.le_refl _,fun _=>⟨rfl,rfl⟩⟩
  · intro hk
    obtain ⟨h0,h1,hn,hm,us,vs,ee,h2,h4,h3⟩:=hs.ob _ _ ho
    refine ⟨h0,h1,hn,hm,hs.blk _ _ ho trivial,?_,us,holds_cells h2,RepAll.mono hk _ _ h3⟩
    rintro (hf | ⟨j,oj,hj,hlj,hp⟩)
    · exact hs.nof _ _ ho trivial hf
    · by_cases e2 : j = id
      · subst e2
        simp only [Ctx.put,setOb_same _ ho,Option.some.injEq] at hj
        subst hj
        exact hlj
      · simp only [Ctx.put, upd_other _ _ e2] at hj hp
        rw [setOb_other _ e2] at hj
        exact e2 (hs.inj _ _ _ _ hj hlj ho trivial hp)
theorem Grow.trans {ro:Nat} {C1 C2 C3:Ctx} {w1 w2 w3:World} (hs:SOk C2 w2) (h:Grow ro C1 w1 C2 w2) (k:Grow ro C2 w2 C3 w3):Grow ro C1 w1 C3 w3:=by
  refine ⟨k.os.trans h.os,k.tape.trans h.tape,k.output.trans h.output,Nat.le_trans h.size k.size,k.forb.trans h.forb,?_,?_,?_,?_⟩
  · intro b hb hn
    rw [k.blk b (Nat.lt_of_lt_of_le hb h.size),h.blk b hb hn]
    intro id o hro ho hl e
    by_cases hid:∃ o1,C1.σ[id]? = some o1∧o1.live∧C1.φ id=b
    · obtain ⟨o1, h1, h2, h3⟩ := hid
      exact hn id o1 hro h1 h2 h3
    · have : Mut C2 b := .inr ⟨id, o, ho, hl, e⟩
      rcases h.may b hb this with hf | ⟨j,oj,hj,hlj,hp⟩
      · have : C2.forb b := by rw [h.forb]; exact hf
        exact hs.nof id o ho hl (e ▸ this)
      · by_cases hjr : ro ≤ j
        · exact hn j oj hjr hj hlj hp
        · obtain ⟨q1, q2, _⟩ := h.low j (by omega)
          have:=hs.inj id j o oj ho hl (by rw [q1]; exact hj) hlj (by rw [q2,hp]; exact e)
          omega
  · intro b hb hm
    exact h.may b hb (k.may b (Nat.lt_of_lt_of_le hb h.size) hm)
  · intro id o ho
    obtain ⟨o',h1,h2⟩:=h.turn id o ho
    obtain ⟨o'',k1,k2⟩:=k.turn id o' h1
    exact ⟨o'',k1,h2.trans k2 fun p q=>⟨q.1.trans p.1,q.2.trans p.2⟩⟩
  · intro id hid
    obtain ⟨a1,a2,a3⟩:=h.low id hid
    obtain ⟨b1,b2,b3⟩:=k.low id hid
    exact ⟨b1.trans a1,b2.trans a2,b3.trans a3⟩
/-- A row's object is given up; another of the same block takes its place. -/
def Ctx.anew (C:Ctx) (id:Nat) (o' : Ob):Ctx:=⟨setOb C.σ id .gone ++ [o'],upd C.φ C.σ.length (C.φ id),upd C.κ C.σ.length (C.κ id),C.forb⟩
theorem anew_one (hs:SOk C w) {ro id n sz:Nat} {cs:List AV} {o' : Ob} (ho:C.σ[id]? = some (.arr n sz cs)) (hro:ro ≤ id) (hob:Keeps C w (C.anew id o') w→ObOk (C.anew id o') w (C.φ id) (C.κ id) o') :
    SOk (C.anew id o') w∧Grow ro C w (C.anew id o') w:=by
  have hid:id < C.σ.length:=(List.getElem?_eq_some_iff.1 ho).1
  have low : ∀ j oj, (C.anew id o').σ[j]? = some oj → (j = C.σ.length ∧ oj = o') ∨ (j = id ∧ oj = .gone) ∨ (j < C.σ.length ∧ j ≠ id ∧ C.σ[j]? = some oj) := by
    intro j oj hj
    simp only [Ctx.anew] at hj
    by_cases h:j < C.σ.length
    · rw [List.getElem?_append_left (by rw [setOb_length]; exact h)] at hj
      by_cases e:j=id
      · subst e
        rw [setOb_same _ ho] at hj
        exact .inr (.inl ⟨rfl,(Option.some.inj hj).symm⟩)
      · rw [setOb_other _ e] at hj
        exact .inr (.inr ⟨h,e,hj⟩)
    · have hl := (List.getElem?_eq_some_iff.1 hj).1
      simp only [List.length_append,List.length_cons,List.length_nil,setOb_length] at hl
      have e:j=C.σ.length:=by omega
      subst e
      have : (setOb C.σ id Ob.gone ++ [o'])[C.σ.length]? = some o' := by
        rw [List.getElem?_append_right (by rw [setOb_length]; exact Nat.le_refl _),setOb_length]
        simp
      rw [this] at hj
      exact .inl ⟨rfl,(Option.some.inj hj).symm⟩
  have hnew:(C.anew id o').φ C.σ.length=C.φ id∧(C.anew id o').κ C.σ.length=C.κ id:=by simp only [Ctx.anew,upd_same,and_self]
  have hold:∀ j,j < C.σ.length→(C.anew id o').φ j=C.φ j∧(C.anew id o').κ j=C.κ j:=fun j hj=>by simp only [Ctx.anew]; exact ⟨upd_other _ _ (by omega),upd_other _ _ (by omega)⟩
  have hmay : ∀ x, x < w.heap.size → Mut (C.anew id o') x → Mut C x := by
    intro x hx h
    rcases h with h | ⟨j,oj,hj,hlj,hp⟩
    · exact .inl h
    · rcases low j oj hj with ⟨rfl, rfl⟩ | ⟨rfl, rfl⟩ | ⟨h1, h2, h3⟩
      · rw [hnew.1] at hp
        exact .inr ⟨id,_,ho,trivial,hp⟩
      · exact hlj.elim
      · exact .inr ⟨j,oj,h3,hlj,by rw [← (hold j h1).1]; exact hp⟩
  have hturn : ∀ j oj, C.σ[j]? = some oj → ∃ oj', (C.anew id o').σ[j]? = some oj' ∧ Turn oj oj' ((C.anew id o').φ j = C.φ j ∧ (C.anew id o').κ j = C.κ j) := by
    intro j oj hj
    have hjl:=(List.getElem?_eq_some_iff.1 hj).1
    by_cases e:j=id
    · subst e
      rw [ho] at hj
      cases hj
      exact ⟨.gone,by simp only [Ctx.anew]; rw [List.getElem?_append_left (by rw [setOb_length]; exact hjl),setOb_same _ ho],.inr rfl⟩
    · exact ⟨oj,by simp only [Ctx.anew]; rw [List.getElem?_append_left (by rw [setOb_length]; exact hjl),setOb_other _ e]; exact hj,Turn.refl _ (hold j hjl)⟩
  have hk:Keeps C w (C.anew id o') w:=⟨Nat.le_refl _,fun _ _ _=>rfl,hmay,hturn⟩
  refine ⟨⟨?_,?_,?_,?_,hs.fb,?_⟩,⟨rfl,rfl,rfl,Nat.le_refl _,rfl,fun _ _ _=>rfl,hmay,hturn,?_⟩⟩
  · intro j oj hj hlj
    rcases low j oj hj with ⟨rfl,rfl⟩ | ⟨rfl,rfl⟩ | ⟨h1,h2,h3⟩
    · rw [hnew.1]; exact hs.blk _ _ ho trivial
    · exact hlj.elim
    · rw [(hold j h1).1]; exact hs.blk j oj h3 hlj
  · intro i j oi oj hi hli hj hlj he
    rcases low i oi hi with ⟨rfl,rfl⟩ | ⟨rfl,rfl⟩ | ⟨h1,h2,h3⟩
    · rcases low j oj hj with ⟨rfl, rfl⟩ | ⟨rfl, rfl⟩ | ⟨k1, k2, k3⟩
      · rfl
      · exact hlj.elim
      · rw [hnew.1, (hold j k1).1] at he
        exact (k2 (hs.inj _ _ _ _ k3 hlj ho trivial he.symm)).elim
    · exact hli.elim
    · rcases low j oj hj with ⟨rfl, rfl⟩ | ⟨rfl, rfl⟩ | ⟨k1, k2, k3⟩
      · rw [hnew.1, (hold i h1).1] at he
        exact (h2 (hs.inj _ _ _ _ h3 hli ho trivial he)).elim
      · exact hlj.elim
      · rw [(hold i h1).1, (hold j k1).1] at he
        exact hs.inj _ _ _ _ h3 hli k3 hlj he
  · intro j oj hj
    rcases low j oj hj with ⟨rfl,rfl⟩ | ⟨rfl,rfl⟩ | ⟨h1,h2,h3⟩
    · rw [hnew.1,hnew.2]; exact hob hk
    · trivial
    · rw [(hold j h1).1, (hold j h1).2]
      exact ObOk.mono hk (fun _=>rfl) (hs.ob j oj h3)
  · intro j oj hj hlj hf
    rcases low j oj hj with ⟨rfl,rfl⟩ | ⟨rfl,rfl⟩ | ⟨h1,h2,h3⟩
    · rw [hnew.1] at hf; exact hs.nof _ _ ho trivial hf
    · exact hlj.elim
    · rw [(hold j h1).1] at hf; exact hs.nof j oj h3 hlj hf
  · intro b X hX
    refine ⟨(hs.fx b X hX).1,fun j oj hj hlj => ?_⟩
    rcases low j oj hj with ⟨rfl,rfl⟩ | ⟨rfl,rfl⟩ | ⟨h1,h2,h3⟩
    · rw [hnew.1]; exact (hs.fx b X hX).2 _ _ ho trivial
    · exact hlj.elim
    · rw [(hold j h1).1]; exact (hs.fx b X hX).2 j oj h3 hlj
  · intro j hj
    have hjl:j < C.σ.length:=by omega
    have hne:j ≠ id:=by omega
    refine ⟨?_,hold j hjl⟩
    simp only [Ctx.anew]
    rw [List.getElem?_append_left (by rw [setOb_length]; exact hjl),setOb_other _ hne]
end Go.Vm
end
/- Rows read by value from now on; new blocks; stores. -/
section
namespace Go.Vm
open Go.RowKit (Below)
variable [Fixed]
variable {P:Program} {C:Ctx} {w:World}

theorem freeze_id (hs:SOk C w) {ro id:Nat} {σ' : List Ob} (h:freezeId ro C.σ id=some σ') :
    SOk ⟨σ', C.φ, C.κ, C.forb⟩ w ∧ Grow ro C w ⟨σ', C.φ, C.κ, C.forb⟩ w ∧
      (∀ j:Nat,(∀ n sz cs,C.σ[j]? ≠ some (Ob.arr n sz cs))→σ'[j]? = C.σ[j]?) ∧
      (∀ (j n sz:Nat) (cs:List AV),C.σ[j]? = some (Ob.arr n sz cs)→σ'[j]? = some (Ob.arr n sz cs) ∨ σ'[j]? = some (Ob.fro n sz cs)) ∧
      (∀ n sz cs,C.σ[id]? = some (.arr n sz cs)→σ'[id]? = some (.fro n sz cs)):=by
  unfold freezeId at h
  split at h
  · rename_i n sz cs ho
    split at h
    · rename_i hro
      simp only [Option.some.injEq] at h
      subst h
      obtain ⟨h1,h2⟩:=freeze_one hs ho hro
      refine ⟨h1,h2,?_,?_,?_⟩
      · intro j hj
        by_cases e:j=id
        · subst e; exact absurd ho (hj _ _ _)
        · exact setOb_other _ e
      · intro j n' sz' cs' hj
        by_cases e:j=id
        · subst e
          rw [ho] at hj
          cases hj
          exact .inr (setOb_same _ ho)
        · rw [setOb_other _ e]; exact .inl hj
      · intro n' sz' cs' hj
        rw [ho] at hj
        cases hj
        exact setOb_same _ ho
    · cases h
  · rename_i o hn ho
    simp only [Option.some.injEq] at h
    subst h
    exact ⟨hs,Grow.refl ro C w,fun _ _=>rfl,fun _ _ _ _ hj => .inl hj,fun n sz cs hj=>by rw [ho] at hj; cases hj; exact (hn n sz cs rfl).elim⟩
  · cases h

theorem freeze_ids {ro:Nat}:∀ (ids:List Nat) {C:Ctx} {σ' : List Ob},SOk C w→freezeIds ro C.σ ids=some σ' →
    SOk ⟨σ', C.φ, C.κ, C.forb⟩ w ∧ Grow ro C w ⟨σ', C.φ, C.κ, C.forb⟩ w ∧
      (∀ j:Nat,(∀ n sz cs,C.σ[j]? ≠ some (Ob.arr n sz cs))→σ'[j]? = C.σ[j]?) ∧
      (∀ (j n sz:Nat) (cs:List AV),C.σ[j]? = some (Ob.arr n sz cs)→σ'[j]? = some (Ob.arr n sz cs) ∨ σ'[j]? = some (Ob.fro n sz cs)) ∧
      (∀ (j n sz:Nat) (cs:List AV),j ∈ ids→C.σ[j]? = some (.arr n sz cs)→σ'[j]? = some (.fro n sz cs))
  | [], C, σ', hs, h => by
    simp only [freezeIds,Option.some.injEq] at h
    subst h
    exact ⟨hs,Grow.refl ro C w,fun _ _=>rfl,fun _ _ _ _ hj => .inl hj,fun _ _ _ _ hj=>by simp at hj⟩
  | id :: ids, C, σ', hs, h => by
    simp only [freezeIds] at h
    split at h
    · rename_i σ1 h1
      obtain ⟨a1,a2,a3,a4,a5⟩:=freeze_id hs h1
      obtain ⟨b1,b2,b3,b4,b5⟩:=freeze_ids ids (C:=⟨σ1,C.φ,C.κ,C.forb⟩) a1 h
      refine ⟨b1,a2.trans a1 b2,?_,?_,?_⟩
      · intro j hj
        have e:=a3 j hj
        rw [b3 j (fun n sz cs=>by rw [e]; exact hj n sz cs)]
        exact e
      · intro j n sz cs hj
        rcases a4 j n sz cs hj with hj1 | hj1
        · exact b4 j n sz cs hj1
        · exact .inr (by rw [b3 j (fun n sz cs=>by rw [hj1]; simp)]; exact hj1)
      · intro j n sz cs hmem hj
        rcases a4 j n sz cs hj with hj1 | hj1
        · rcases List.mem_cons.1 hmem with rfl | hm
          · have := a5 n sz cs hj
            rw [hj1] at this
            cases this
          · exact b5 j n sz cs hm hj1
        · rw [b3 j (fun n sz cs=>by rw [hj1]; simp)]; exact hj1
    · cases h

theorem thaw_one {σ:List Ob} {v v' : AV} (h:AV.thaw σ v=some v'):v'.one=v.one∧(v.flat=true→v'.flat=true):=by
  cases v <;> simp only [AV.thaw,Option.some.injEq] at h
  case own id n =>
    split at h
    · split at h
      · cases h; exact ⟨rfl,fun _=>rfl⟩
      · cases h
    · split at h
      · cases h; exact ⟨rfl,fun _=>rfl⟩
      · cases h
    · cases h
  case list =>
    split at h
    · cases h; exact ⟨rfl,fun _=>rfl⟩
    · cases h
  case agg =>
    split at h
    · cases h; exact ⟨rfl,fun _=>rfl⟩
    · cases h
  case tup =>
    split at h
    · cases h; exact ⟨rfl,fun h=>h⟩
    · cases h
  all_goals (subst h; exact ⟨rfl,fun h=>h⟩)
theorem thawAll_one {σ:List Ob}:∀ {vs vs' : List AV},AV.thawAll σ vs=some vs' → vs'.length=vs.length∧(allOne vs→allOne vs')
  | [],vs',h=>by simp only [AV.thawAll,Option.some.injEq] at h; subst h; exact ⟨rfl,id⟩
  | v :: vs, vs', h => by
    simp only [AV.thawAll] at h
    split at h
    · rename_i x xs h1 h2
      simp only [Option.some.injEq] at h
      subst h
      obtain ⟨a,b⟩:=thawAll_one h2
      refine ⟨by simp [a],fun ho => ?_⟩
      simp only [allOne] at ho ⊢
      exact ⟨by rw [(thaw_one h1).1]; exact ho.1,b ho.2⟩
    · cases h

/-- The rows of a value are read by value in C'. -/
def Read (C C' : Ctx) (id:Nat):Prop:=∀ n sz cs,(C.σ[id]? = some (.arr n sz cs) ∨ C.σ[id]? = some (.fro n sz cs))→C'.σ[id]? = some (.fro n sz cs)∧C'.φ id=C.φ id∧C'.κ id=C.κ id

mutual
theorem thaw_rep {C C' : Ctx} {w:World} (hs:SOk C' w) (hk:Keeps C w C' w):∀ (v v' : AV) (u:Value),AV.thaw C.σ v=some v' → (∀ id ∈ AV.owns v,Read C C' id)→Rep C w v u→Rep C' w v' u:=by
  intro v v' u h hr hv
  match v with
  | .own id n =>
    simp only [AV.thaw] at h
    simp only [Rep] at hv
    obtain ⟨⟨a,c,rfl⟩,hrow⟩:=hv
    have key : ∀ n' sz cs, (C.σ[id]? = some (.arr n' sz cs) ∨ C.σ[id]? = some (.fro n' sz cs)) → n' = n → v' = .list .ro n sz cs → Rep C' w v' (.slice a n c) := by
      intro n' sz cs ho hn hv'
      subst hn; subst hv'
      obtain ⟨h1,h2,h3⟩:=hr id (by simp [AV.owns]) _ _ _ ho
      obtain ⟨k0,k1,k2,k3,k4,k5,us,k6,k7⟩:=hs.ob _ _ h1
      have e : Value.slice a n' c = .slice (some ⟨C.φ id, 0, none⟩) n' (C.κ id) := by
        unfold RowIs at hrow
        rcases ho with ho | ho <;> rw [ho] at hrow <;> exact hrow.2 rfl
      rw [e]
      rw [h3] at k2 k3
      rw [h2] at k4 k5 k6
      simp only [Rep]
      exact ⟨k0,k1,_,_,rfl,k2,k3,by simp,by simp,fun _=>⟨_,_,us,rfl,k4,k5,k6,k7⟩⟩
    split at h
    · rename_i n' sz cs ho
      split at h
      · rename_i hn
        simp only [Option.some.injEq] at h
        exact key n' sz cs (.inl ho) hn h.symm
      · cases h
    · rename_i n' sz cs ho
      split at h
      · rename_i hn
        simp only [Option.some.injEq] at h
        exact key n' sz cs (.inr ho) hn h.symm
      · cases h
    · cases h
  | .list k n sz cs =>
    simp only [AV.thaw] at h
    split at h
    · rename_i cs' hcs
      simp only [Option.some.injEq] at h
      subst h
      simp only [Rep] at hv ⊢
      obtain ⟨h0,h1,a,cap,h2,h3,h4,h5,h6,h7⟩:=hv
      refine ⟨by rw [(thawAll_one hcs).1]; exact h0,(thawAll_one hcs).2 h1,a,cap,h2,h3,h4,h5,h6,fun hn => ?_⟩
      obtain ⟨b,o,us,k1,k2,k3,k4,k5⟩:=h7 hn
      exact ⟨b,o,us,k1,k2,fun hm=>k3 (hk.may b k2 hm),k4,thawAll_rep hs hk cs cs' us hcs (fun id hid=>hr id (by simpa [AV.owns] using hid)) k5⟩
    · cases h
  | .agg cs =>
    simp only [AV.thaw] at h
    split at h
    · rename_i cs' hcs
      simp only [Option.some.injEq] at h
      subst h
      simp only [Rep] at hv ⊢
      obtain ⟨h1,us,e,h2⟩:=hv
      exact ⟨(thawAll_one hcs).2 h1,us,e,thawAll_rep hs hk cs cs' us hcs (fun id hid=>hr id (by simpa [AV.owns] using hid)) h2⟩
    · cases h
  | .tup cs =>
    simp only [AV.thaw] at h
    split at h
    · rename_i cs' hcs
      simp only [Option.some.injEq] at h
      subst h
      simp only [Rep] at hv ⊢
      obtain ⟨us,e,h2⟩:=hv
      exact ⟨us,e,thawAll_rep hs hk cs cs' us hcs (fun id hid=>hr id (by simpa [AV.owns] using hid)) h2⟩
    · cases h
  | .int _ _ | .bool _ | .str _ | .pnil | .mnil | .fnil | .inil | .undef | .any | .raw _ | .ptag _ | .ref _ _ | .eref _ _ _ | .map _ | .eaddr _ | .clo _ _ | .iface _ _ =>
    simp only [AV.thaw,Option.some.injEq] at h
    subst h
    exact Rep.mono hk _ _ hv
theorem thawAll_rep {C C' : Ctx} {w:World} (hs:SOk C' w) (hk:Keeps C w C' w):∀ (vs vs' : List AV) (us:List Value),AV.thawAll C.σ vs=some vs' → (∀ id ∈ AV.ownsAll vs,Read C C' id)→RepAll C w vs us→RepAll C' w vs' us:=by
  intro vs vs' us h hr hv
  match vs,us with
  | [], [] =>
    simp only [AV.thawAll,Option.some.injEq] at h
    subst h
    simp only [RepAll]
  | v :: vs, u :: us =>
    simp only [AV.thawAll] at h
    split at h
    · rename_i x xs h1 h2
      simp only [Option.some.injEq] at h
      subst h
      simp only [RepAll] at hv ⊢
      exact ⟨thaw_rep hs hk v x u h1 (fun id hid=>hr id (by simp [AV.ownsAll,hid])) hv.1,thawAll_rep hs hk vs xs us h2 (fun id hid=>hr id (by simp [AV.ownsAll,hid])) hv.2⟩
    · cases h
  | [],_::_=>simp only [RepAll] at hv
  | _::_,[]=>simp only [RepAll] at hv
end

/-- Rows of values are read by value from now on. -/
theorem freeze_thaw (hs:SOk C w) {ro:Nat} {ids:List Nat} {σ' : List Ob} (h:freezeIds ro C.σ ids=some σ') :
    SOk ⟨σ',C.φ,C.κ,C.forb⟩ w∧Grow ro C w ⟨σ',C.φ,C.κ,C.forb⟩ w∧∀ id ∈ ids,Read C ⟨σ',C.φ,C.κ,C.forb⟩ id:=by
  obtain ⟨h1,h2,h3,h4,h5⟩:=freeze_ids ids hs h
  refine ⟨h1,h2,fun id hid n sz cs ho=>⟨?_,rfl,rfl⟩⟩
  rcases ho with ho | ho
  · exact h5 id n sz cs hid ho
  · exact (h3 id (fun n sz cs=>by rw [ho]; simp)).trans ho
end Go.Vm
end
/- New blocks, stores, rows that grow. -/
section
namespace Go.Vm
open Go.RowKit (Below)
variable [Fixed]
variable {P:Program} {C:Ctx} {w:World}

/-- What an operation brings about. -/
def Did (ro:Nat) (C:Ctx) (w:World) (σ' : List Ob) (v:AV) (r:Result Value):Prop :=
  ∃ u w' C',r = .ok u w' ∧ C'.σ=σ' ∧ SOk C' w' ∧ Grow ro C w C' w' ∧ Rep C' w' v u

theorem RepAll.oneCell:∀ {vs:List AV} {us:List Value},RepAll C w vs us→allOne vs→∀ u ∈ us,u.oneCell' = true
  | [],[],_,_,u,hu=>by simp at hu
  | v :: vs, u :: us, h, ho, x, hx => by
    simp only [RepAll,allOne] at h ho
    rcases List.mem_cons.1 hx with rfl | hx
    · obtain ⟨_, h1, h2⟩ := h.1.one ho.1
      cases x <;> first
        | rfl
        | exact absurd rfl (h1 _)
        | exact absurd rfl (h2 _)
    · exact RepAll.oneCell h.2 ho.2 x hx
  | [],_::_,h,_,_,_=>by simp only [RepAll] at h
  | _::_,[],h,_,_,_=>by simp only [RepAll] at h

theorem more_heap (hs:SOk C w) (ro:Nat) {w' : World} (hos:w'.os=w.os) (htape:w'.tape=w.tape) (hout:w'.output=w.output) (hsize:w.heap.size ≤ w'.heap.size) (hblk:∀ x,x < w.heap.size→w'.heap[x]? = w.heap[x]?) :
    SOk C w' ∧ Grow ro C w C w' ∧ ∀ b,w.heap.size ≤ b → ¬ Mut C b:=by
  have hg:Grow ro C w C w' := ⟨hos,htape,hout,hsize,rfl,fun x hx _=>hblk x hx,fun _ _ h=>h,fun _ o h=>⟨o,h,Turn.refl o ⟨rfl,rfl⟩⟩,fun _ _=>⟨rfl,rfl,rfl⟩⟩
  refine ⟨⟨fun id o h hl=>Nat.lt_of_lt_of_le (hs.blk id o h hl) hsize,hs.inj,fun id o h=>ObOk.mono hg.keeps (fun hl=>hblk _ (hs.blk id o h hl)) (hs.ob id o h),hs.nof,fun b hb=>Nat.lt_of_lt_of_le (hs.fb b hb) hsize,fun b X hX=>⟨(hblk b (Array.getElem?_eq_some_iff.1 (hs.fx b X hX).1).1).trans (hs.fx b X hX).1,(hs.fx b X hX).2⟩⟩,hg,?_⟩
  rintro b hb (hf | ⟨id,o,h1,h2,rfl⟩)
  · have:=hs.fb b hf; omega
  · have:=hs.blk id o h1 h2; omega

theorem did_new (hs:SOk C w) {ro c:Nat} (hro:ro ≤ C.σ.length) {o' : Ob} {X:Obj} {v:AV} {u:Value} {r:Result Value} {w1:World}
    (hw:w1=w ∨ w1=w.drew) (hr:r = .ok u (w1.alloc X))
    (hob:∀ C' w',Keeps C w C' w' → w'.heap[w.heap.size]? = some X→ObOk C' w' w.heap.size c o')
    (hrep:∀ C' : Ctx,C'.σ[C.σ.length]? = some o' → C'.φ C.σ.length=w.heap.size→C'.κ C.σ.length=c→Rep C' (w1.alloc X) v u):Did ro C w (C.σ ++ [o']) v r:=by
  have hh:w1.heap=w.heap:=by rcases hw with rfl | rfl <;> rfl
  have hX : (w1.alloc X).heap[w.heap.size]? = some X := by
    have:=heap_alloc_new w1 X
    rw [hh] at this
    exact this
  obtain ⟨h1, h2⟩ := new_one hs (w' := w1.alloc X) (b := w.heap.size) (c := c) (o' := o') hro (by rcases hw with rfl | rfl <;> rfl) (by rcases hw with rfl | rfl <;> rfl) (by rcases hw with rfl | rfl <;> rfl)
    (by simp [hh]) (fun x hx=>by rw [heap_alloc_old w1 X x (by rw [hh]; exact hx),hh]) (Nat.le_refl _) (by simp [hh]) (fun hk=>hob _ _ hk hX)
  exact ⟨u,_,_,hr,rfl,h1,h2,hrep _ (by simp [Ctx.add]) (by simp [Ctx.add,upd]) (by simp [Ctx.add,upd])⟩

theorem tagOk_no {e:TypeId}:∀ {cs:List AV},headTag cs=false→TagOk e cs
  | [],_=>trivial
  | c :: cs, h => by
    cases c <;> first | trivial | (simp [headTag] at h)
theorem tagOk_overlay {e:TypeId} {cs vs:List AV} {off:Nat} (h:TagOk e cs) (hv:headTag vs=false):TagOk e (overlay cs off vs):=by
  unfold overlay
  cases off with
  | zero =>
    cases vs with
    | nil=>simpa using h
    | cons v vs =>
      apply tagOk_no
      cases v <;> first | rfl | (simp [headTag] at hv)
  | succ n =>
    cases cs with
    | nil =>
      apply tagOk_no
      cases vs with
      | nil=>rfl
      | cons v vs=>cases v <;> first | rfl | (simp [headTag] at hv)
    | cons c cs=>cases c <;> first | trivial | exact h
theorem tagBox_id {P:Program} {t:TypeId} {cs:List AV} (h:selfPtr P t=false):tagBox P t cs=cs:=by
  unfold tagBox
  split
  · rw [h]; rfl
  · rfl
theorem tagBox_rep {P:Program} {t:TypeId} {cs:List AV} {us:List Value} (h:RepAll C w cs us):RepAll C w (tagBox P t cs) us:=by
  unfold tagBox
  split
  · split
    · cases us with
      | nil=>simp only [RepAll] at h
      | cons u us=>simp only [RepAll,Rep] at h ⊢; exact h
    · exact h
  · exact h
theorem tagBox_one {P:Program} {t:TypeId} {cs:List AV} (h:allOne cs):allOne (tagBox P t cs):=by
  unfold tagBox
  split
  · split
    · exact ⟨rfl,h.2⟩
    · exact h
  · exact h
theorem tagBox_ok {P:Program} {t:TypeId} {cs:List AV} (h:headTag cs=false):TagOk t (tagBox P t cs):=by
  unfold tagBox
  split
  · split
    · rfl
    · exact trivial
  · exact tagOk_no h
theorem box_run (hs:SOk C w) {ro:Nat} (hro:ro ≤ C.σ.length) {t:TypeId} {v:AV} {u:Value} (hf:v.flat=true) (hg:headTag v.cells=false) (hr:Rep C w v u) :
    Did ro C w (C.σ ++ [.cells v.cells]) (.ref C.σ.length 0) ((Instr.box t u).run P w):=by
  obtain ⟨h1,h2⟩:=hr.cells' hf
  refine did_new hs (c:=0) (X := .cells u.cells t) (u := .pointer (some ⟨w.heap.size,0,none⟩)) hro (.inl rfl) (by simp [Instr.box,newVar,newRow]) ?_ ?_
  · intro C' w' hk hX
    exact ⟨h2,u.cells.toList,t,by simpa using hX,tagOk_no hg,RepAll.mono hk _ _ h1⟩
  · intro C' ho hφ _
    simp only [Rep]
    exact ⟨⟨_,ho⟩,by rw [hφ]⟩
theorem alloc_run (hs:SOk C w) {ro:Nat} (hro:ro ≤ C.σ.length) {t:TypeId} {z:AV} (hz:zerov P t=some z) (hg:headTag z.cells=false) :
    Did ro C w (C.σ ++ [.cells (tagBox P t z.cells)]) (.ref C.σ.length 0) ((Instr.alloc t true (.tuple #[])).run P w):=by
  obtain ⟨i,zv,_,_,h1,h2,h3⟩:=zerov_run (C:=C) (w:=w) hz
  have e : (Instr.alloc t true (.tuple #[])).run P w = (Instr.box t zv).run P w := by
    simp only [Instr.alloc,Instr.box,Sem.run_bind,h1,Result.andThen]
  rw [e]
  obtain ⟨k1,k2⟩:=h2.cells' h3
  refine did_new hs (c:=0) (X := .cells zv.cells t) (u := .pointer (some ⟨w.heap.size,0,none⟩)) hro (.inl rfl) (by simp [Instr.box,newVar,newRow]) ?_ ?_
  · intro C' w' hk hX
    exact ⟨tagBox_one k2,zv.cells.toList,t,by simpa using hX,tagBox_ok hg,tagBox_rep (RepAll.mono hk _ _ k1)⟩
  · intro C' ho hφ _
    simp only [Rep]
    exact ⟨⟨_,ho⟩,by rw [hφ]⟩
theorem makeMap_run (hs:SOk C w) {ro:Nat} (hro:ro ≤ C.σ.length) {t:TypeId}:Did ro C w (C.σ ++ [.mapo []]) (.map C.σ.length) ((Instr.makeMap t none).run P w):=by
  refine did_new hs (c:=0) (X := .map #[] 0) (u := .map (some w.heap.size)) hro (.inl rfl) (by simp [Instr.makeMap]) ?_ ?_
  · intro C' w' hk hX
    exact ⟨#[],0,hX,by simp [Stamped],by simp [RepEs]⟩
  · intro C' ho hφ _
    simp only [Rep]
    exact ⟨⟨_,ho⟩,by rw [hφ]⟩

theorem makeMap_runH (hs:SOk C w) {ro:Nat} (hro:ro ≤ C.σ.length) {t kt et:TypeId} {k:IntKind} {n:Int} (hu:P.underlying t=some (.map kt et)):Did ro C w (C.σ ++ [.mapo []]) (.map C.σ.length) ((Instr.makeMap t (some (.int k n))).run P w):=by
  have e : (Instr.makeMap t (some (.int k n))).run P w = (Instr.makeMap t none).run P w := by
    simp [Instr.makeMap,run_underlying hu,asInt,asIntOf,Sem.run_bind,Result.andThen]
  rw [e]
  exact makeMap_run hs hro
theorem range_made (zc:Array Value):∀ n,(List.range ((n + 1) * zc.size)).map (fun i=>zc[i % zc.size]!)=zc.toList ++ (List.range (n * zc.size)).map (fun i=>zc[i % zc.size]!):=by
  intro n
  rw [Nat.add_mul,Nat.one_mul,Nat.add_comm,List.range_add,List.map_append,List.map_map]
  congr 1
  · apply List.ext_getElem?
    intro j
    by_cases hj:j < zc.size
    · simp [hj,Nat.mod_eq_of_lt hj,getElem!_pos zc j hj]
    · simp [hj]
  · apply List.map_congr_left
    intro j _
    simp
theorem replv_rep {zs:List AV} {zc:Array Value} (h:RepAll C w zs zc.toList) (ho:allOne zs):∀ n,RepAll C w (replv n zs) ((List.range (n * zc.size)).map (fun i=>zc[i % zc.size]!))∧allOne (replv n zs)∧(replv n zs).length=n * zs.length
  | 0=>by simp [replv,RepAll,allOne]
  | n + 1 => by
    obtain ⟨h1,h2,h3⟩:=replv_rep h ho n
    rw [range_made]
    exact ⟨h.append h1,ho.append h2,by simp only [replv,List.length_append,h3]; rw [Nat.add_mul]; omega⟩

theorem buildSlicev_run (hs:SOk C w) (ro:Nat) {t:TypeId} {len:Nat} {parts:List (Nat × AV)} {ups:Array (Nat × Value)} {v:AV} (h:buildSlicev P t len parts=some v) (hq:RepParts C w parts ups.toList) :
    ∃ u w',(Instr.buildSlice t len ups).run P w = .ok u w' ∧ SOk C w' ∧ Grow ro C w C w' ∧ Rep C w' v u:=by
  unfold buildSlicev at h
  split at h
  · rename_i e hu
    split at h
    · cases h
    · rename_i hle
      split at h
      · rename_i z hz
        obtain ⟨i,zv,hi,hzi,h1,h2,h3⟩:=zerov_run (C:=C) (w:=w) hz
        split at h
        · rename_i hzl
          split at h
          · rename_i cs hcs
            simp only [Option.some.injEq] at h
            subst h
            obtain ⟨k1,k2⟩:=h2.cells' h3
            have hzs:zv.cells.size=P.cellsOf e:=by rw [← hzl,k1.length]; simp
            obtain ⟨r1,r2,r3⟩:=replv_rep (C:=C) (w:=w) k1 k2 len
            rw [hzs] at r1
            obtain ⟨us',m1,m2,m3⟩:=fillv_run (fun _=>rfl) parts ups.toList _ _ _ hcs r1 r2 hq
            have hrow : ∀ zz : Array Value, (len * P.cellsOf e = 0 ∨ zz = zv.cells) → ((Array.range (len * P.cellsOf e)).map fun x => zz[x % zz.size]!) = ((List.range (len * P.cellsOf e)).map (fun i => zv.cells[i % P.cellsOf e]!)).toArray := by
              intro zz hzz
              rcases hzz with h0 | rfl
              · rw [h0]; simp
              · rw [hzs]
                apply Array.ext'
                simp
            have hrun : (Instr.buildSlice t len ups).run P w = .ok (.slice (some ⟨w.heap.size, 0, none⟩) len len) (w.alloc (.cells us'.toArray e)) := by
              simp only [Instr.buildSlice,Sem.run_bind,run_und hu,Result.andThen,run_size (P:=P) (w:=w) (t:=e) (by simp [hi])]
              rw [if_neg (by omega)]
              by_cases h0:len * P.cellsOf e=0
              · rw [if_pos h0]
                simp only [Sem.run_bind,Sem.run_pure,Result.andThen,hrow #[] (.inl h0),m1]
                simp [newRow]
              · rw [if_neg h0]
                simp only [Sem.run_bind,Sem.run_pure,Result.andThen,h1,hrow zv.cells (.inr rfl),m1]
                simp [newRow]
            obtain ⟨g1,g2,g3⟩:=more_heap hs ro (w' := w.alloc (.cells us'.toArray e)) rfl rfl rfl (by simp) (fun x hx=>heap_alloc_old w _ x hx)
            have hlen : cs.length = len * P.cellsOf e := by
              have e1:=fillv_length hcs
              rw [e1,r3,hzl]
            refine ⟨_,_,hrun,g1,g2,?_⟩
            simp only [Rep]
            refine ⟨hlen,m3,_,_,rfl,Nat.le_refl _,by simp only [maxLen]; omega,fun _=>rfl,by simp,fun hn=>⟨_,_,us',rfl,by simp,g3 _ (Nat.le_refl _),?_,RepAll.mono g2.keeps _ _ m2⟩⟩
            exact holds_cells (vs:=[]) (by rw [List.append_nil]; exact heap_alloc_new w _)
          · cases h
        · cases h
      · cases h
  · cases h
end Go.Vm
end
/- Stores, rows that grow, rows that are made. -/
section
namespace Go.Vm
open Go.RowKit (Below)
variable [Fixed]
variable {P:Program} {C:Ctx} {w:World}

theorem setRow_size (w:World) (g:Nat) (cs:Array Value):(w.setRow g cs).heap.size=w.heap.size:=by simp [World.setRow]

/-- A row of a live object gets new cells. -/
theorem did_row (hs:SOk C w) {ro id:Nat} {o o' : Ob} {v:AV} {u:Value} {r:Result Value} {old cells:Array Value} {e:TypeId} (ho:C.σ[id]? = some o) (hl:o.live) (hro:ro ≤ id)
    (hg:w.heap[C.φ id]? = some (.cells old e (0,0))) (hr:r = .ok u (w.setRow (C.φ id) cells)) (ht:Turn o o' True)
    (hob:∀ C' w',Keeps C w C' w' → w'.heap[C.φ id]? = some (.cells cells e (0,0))→ObOk C' w' (C.φ id) (C.κ id) o')
    (hrep:∀ C' : Ctx,C'.σ[id]? = some o' → C'.φ id=C.φ id→C'.κ id=C.κ id→Rep C' (w.setRow (C.φ id) cells) v u):Did ro C w (setOb C.σ id o') v r:=by
  have ht' : Turn o o' (C.φ id=C.φ id∧C.κ id=C.κ id):=by simpa using ht
  have hX:=setRow_heap w (C.φ id) old cells e _ hg
  obtain ⟨h1, h2⟩ := turn_one hs (w' := w.setRow (C.φ id) cells) (b := C.φ id) (c := C.κ id) (o' := o') ho hl hro rfl rfl rfl (Nat.le_of_eq (setRow_size ..).symm)
    (fun x _ hx=>setRow_other w (C.φ id) x cells hx) (.inl rfl) (by rw [setRow_size]; exact hs.blk _ _ ho hl) ht' (fun hk=>hob _ _ hk hX)
  exact ⟨u,_,_,hr,rfl,h1,h2,hrep _ (setOb_same _ ho) (by simp [Ctx.put,upd]) (by simp [Ctx.put,upd])⟩
/-- A row of a live object moves to a new block. -/
theorem did_move (hs:SOk C w) {ro id c:Nat} {o o' : Ob} {v:AV} {u:Value} {r:Result Value} {X:Obj} (ho:C.σ[id]? = some o) (hl:o.live) (hro:ro ≤ id)
    (hr:r = .ok u (w.drew.alloc X)) (ht:Turn o o' False)
    (hob:∀ C' w',Keeps C w C' w' → w'.heap[w.heap.size]? = some X→ObOk C' w' w.heap.size c o')
    (hrep:∀ C' : Ctx,C'.σ[id]? = some o' → C'.φ id=w.heap.size→C'.κ id=c→Rep C' (w.drew.alloc X) v u):Did ro C w (setOb C.σ id o') v r:=by
  have hlt:=hs.blk _ _ ho hl
  have ht' : Turn o o' (w.heap.size = C.φ id ∧ c = C.κ id) := by
    have:(w.heap.size=C.φ id∧c=C.κ id)=False:=by simp; intro e; omega
    rw [this]; exact ht
  have hX:(w.drew.alloc X).heap[w.heap.size]? = some X:=heap_alloc_new w.drew X
  obtain ⟨h1, h2⟩ := turn_one hs (w' := w.drew.alloc X) (b := w.heap.size) (c := c) (o' := o') ho hl hro rfl rfl rfl (by simp)
    (fun x hx _=>heap_alloc_old w.drew X x hx) (.inr (Nat.le_refl _)) (by simp) ht' (fun hk=>hob _ _ hk hX)
  exact ⟨u,_,_,hr,rfl,h1,h2,hrep _ (setOb_same _ ho) (by simp [Ctx.put,upd]) (by simp [Ctx.put,upd])⟩

theorem take_left' {α:Type} (l r:List α) {n:Nat} (h:l.length=n):(l ++ r).take n=l:=by rw [← h]; exact List.take_left
theorem drop_left' {α:Type} (l r:List α) {n k:Nat} (h:l.length=n):(l ++ r).drop (n + k)=r.drop k:=by rw [← h,List.drop_append]; simp

theorem storev_run (hs:SOk C w) {ro:Nat} {t:TypeId} {a v:AV} {ua u:Value} {σ' : List Ob} (h:storev P t C.σ ro a v=some σ') (ha:Rep C w a ua) (hv:Rep C w v u) :
    Did ro C w σ' .undef (((Instr.storeAt t ua u).run P w).andThen fun _ w' => .ok undef w'):=by
  unfold storev at h
  split at h
  · rename_i hc
    obtain ⟨hf,hsz,hinf⟩:=hc
    obtain ⟨hv1,hv2⟩:=hv.cells' hf
    have hl:v.cells.length=u.cells.size:=by rw [hv1.length]; simp
    have run : ∀ (g off : Nat) (cur : Array Value) (e : TypeId), ua = .pointer (some ⟨g, off, none⟩) → w.heap[g]? = some (.cells cur e (0, 0)) → off + u.cells.size ≤ cur.size →
        (((Instr.storeAt t ua u).run P w).andThen fun _ w' => Result.ok undef w') = .ok undef (w.setRow g (cur.toList.take off ++ u.cells.toList ++ cur.toList.drop (off + u.cells.size)).toArray):=by
      intro g off cur e hua hg hle
      subst hua
      have hst:=run_storeCells_at P g off e u.cells.toList 0 cur w hg (by simpa using hle) (hv1.oneCell hv2)
      simp only [Nat.add_zero,Array.length_toList] at hst
      simp only [Instr.storeAt,Instr.sureAddr,Sem.run_bind,Sem.run_pure,Result.andThen,storeVar,run_size hinf]
      rw [if_neg (by rw [← hl,hsz]; simp)]
      rw [hst]
    split at h
    · rename_i id off
      simp only [Rep] at ha
      obtain ⟨_,rfl⟩:=ha
      split at h
      · rename_i cs ho
        split at h
        · rename_i hc
          simp only [Option.some.injEq] at h
          subst h
          obtain ⟨h1,us,e,h2,ht,h3⟩:=hs.ob id _ ho
          have hle:off + u.cells.size ≤ us.length:=by rw [← hl,← h3.length]; exact hc.2.1
          refine did_row hs ho trivial hc.1 h2 (run _ _ _ e rfl h2 (by simpa using hle)) ⟨⟨_,rfl,overlay_length hc.2.1⟩,trivial⟩ ?_ ?_
          · intro C' w' hk hX
            refine ⟨overlay_one h1 hv2,_,e,hX,tagOk_overlay ht hc.2.2,RepAll.mono hk _ _ ?_⟩
            have:=overlay_rep (o:=off) h3 hv1
            simpa using this
          · intro C' _ _ _
            simp only [Rep]
        · cases h
      · cases h
    · rename_i id n off
      simp only [Rep] at ha
      obtain ⟨_,hrow⟩:=ha
      unfold RowIs at hrow
      split at h
      · rename_i n' sz cs ho
        split at h
        · rename_i hc
          obtain ⟨hn,hro,hle',_,_⟩:=hc
          simp only [Option.some.injEq] at h
          subst h
          subst hn
          rw [ho] at hrow
          obtain ⟨h0,h1,hnc,hcm,us,vs,e,h2,h4,h3⟩:=hs.ob id _ ho
          have hle:off + u.cells.size ≤ us.length:=by rw [← hl,← h3.length]; exact hle'
          refine did_row hs ho trivial hro h2 (run _ _ _ e (hrow.2 rfl) h2 (by simp; omega)) (.inl ⟨n',sz,_,.inl rfl,Nat.le_refl _,fun _=>trivial⟩) ?_ ?_
          · intro C' w' hk hX
            have hov:=overlay_rep (o:=off) h3 hv1
            have hlen : (us.take off ++ u.cells.toList ++ us.drop (off + u.cells.toList.length)).length = us.length := by
              simp only [List.length_append,List.length_take,List.length_drop,Array.length_toList]; omega
            refine ⟨by rw [overlay_length hle']; exact h0,overlay_one h1 hv2,hnc,hcm,us.take off ++ u.cells.toList ++ us.drop (off + u.cells.toList.length),vs,e,?_,by rw [hlen]; exact h4,RepAll.mono hk _ _ hov⟩
            rw [hX]
            congr 3
            simp only [List.append_assoc,Array.length_toList]
            rw [List.take_append_of_le_length (by omega),List.drop_append_of_le_length (by omega)]
          · intro C' _ _ _
            simp only [Rep]
        · cases h
      · cases h
    · cases h
  · cases h

theorem appended_run (hs:SOk C w) {sz m:Nat} {x:AV} {ux:Value} {ys:List AV} (hns:∀ s,x ≠ .str s) (h:appended C.σ sz x=some (m,ys)) (hx:Rep C w x ux) :
    ∃ a c us,ux = .slice a m c∧ys.length=m * sz∧allOne ys∧RepAll C w ys us∧(0 < m→∃ ad,a=some ad∧∀ j x,us[j]? = some x→w.cell? (ad.add j)=some x):=by
  unfold appended at h
  split at h
  · rename_i k n sz' cs
    simp only [Rep] at hx
    obtain ⟨h0,h1,a,cap,rfl,_,_,_,_,h7⟩:=hx
    split at h
    · rename_i hn
      subst hn
      simp only [Option.some.injEq,Prod.mk.injEq] at h
      obtain ⟨rfl,rfl⟩:=h
      exact ⟨a,cap,[],rfl,by simp,trivial,by simp only [RepAll],fun h=>absurd h (by omega)⟩
    · split at h
      · rename_i hsz
        subst hsz
        simp only [Option.some.injEq,Prod.mk.injEq] at h
        obtain ⟨rfl,rfl⟩:=h
        obtain ⟨b,o,us,rfl,_,_,k4,k5⟩:=h7 (by omega)
        exact ⟨_,cap,us,rfl,h0,h1,k5,fun _=>⟨_,rfl,fun j x hj=>by rw [add_none]; exact k4 j x hj⟩⟩
      · cases h
  · rename_i id n
    simp only [Rep] at hx
    obtain ⟨⟨a,c,rfl⟩,hrow⟩:=hx
    unfold RowIs at hrow
    split at h
    · rename_i n' sz' cs ho
      split at h
      · rename_i hn
        obtain ⟨rfl,rfl⟩:=hn
        simp only [Option.some.injEq,Prod.mk.injEq] at h
        obtain ⟨rfl,rfl⟩:=h
        rw [ho] at hrow
        have e:=hrow.2 rfl
        simp only [Value.slice.injEq,true_and] at e
        obtain ⟨h0,h1,_,_,us,vs,e',h2,_,h3⟩:=hs.ob id _ ho
        have hh:=holds_cells h2
        exact ⟨_,_,us,rfl,h0,h1,h3,fun _=>⟨_,e.1,fun j x hj=>by rw [add_none]; exact hh j x hj⟩⟩
      · cases h
    · rename_i n' sz' cs ho
      split at h
      · rename_i hn
        obtain ⟨rfl,rfl⟩:=hn
        simp only [Option.some.injEq,Prod.mk.injEq] at h
        obtain ⟨rfl,rfl⟩:=h
        rw [ho] at hrow
        have e:=hrow.2 rfl
        simp only [Value.slice.injEq,true_and] at e
        obtain ⟨h0,h1,_,_,_,_,us,h2,h3⟩:=hs.ob id _ ho
        exact ⟨_,_,us,rfl,h0,h1,h3,fun _=>⟨_,e.1,fun j x hj=>by rw [add_none]; exact h2 j x hj⟩⟩
      · cases h
    · cases h
  · exact absurd rfl (hns _)
  · cases h

/-- A string's bytes, told. -/
theorem bytes_rep {C : Ctx} {w : World} : ∀ (l : List UInt8), RepAll C w (l.map fun b => AV.int .u8 b.toNat) (l.map fun b => Value.int .u8 b.toNat) ∧ allOne (l.map fun b => AV.int .u8 b.toNat)
  | []=>⟨by simp only [List.map_nil,RepAll],trivial⟩
  | b :: l => by
    obtain ⟨h1,h2⟩:=bytes_rep (C:=C) (w:=w) l
    refine ⟨?_,?_⟩
    · simp only [List.map_cons, RepAll]
      exact ⟨by simp only [Rep],h1⟩
    · simp only [List.map_cons, allOne]
      exact ⟨rfl,h2⟩

/-! ### over whatever second argument (Src) -/
theorem append_zero_src {t tx ty e:TypeId} {x:Value} {i:TypeInfo} {news:List Value} (ht:P.underlying t=some (.slice e)) (hi:P.info? e=some i) (hs:Src P i.size tx x 0 news w) (b:Option Addr) (n cap:Nat) (hn:n ≤ cap) :
    (Builtin.append_ #[t,tx] ty #[.slice b n cap,x]).run P w = .ok (.slice b n cap) w:=by
  have hnil:news=[]:=List.eq_nil_of_length_eq_zero (by rw [hs.newsLen,Nat.zero_mul])
  have hc:=hs.cells
  rw [hnil] at hc
  rcases hs.kind with ⟨e',hk⟩ | hk <;> cases b <;> simp [Builtin.append_,run_und ht,run_und hk,sizeOf,typeInfo,hi,hs.len,hn,hc,storeCells]
theorem append_room_src {t tx ty e e' : TypeId} {i:TypeInfo} (ht:P.underlying t=some (.slice e)) (hi:P.info? e=some i)
    (g sLen sCap:Nat) (cur:Array Value) (hg:w.heap[g]? = some (.cells cur e' (0,0))) {x:Value} {m:Nat} {news:List Value} (hs:Src P i.size tx x m news w)
    (hroom:sLen + m ≤ sCap) (hfit:sLen * i.size + news.length ≤ cur.size) :
    (Builtin.append_ #[t, tx] ty #[.slice (some ⟨g, 0, none⟩) sLen sCap, x]).run P w =
      .ok (.slice (some ⟨g,0,none⟩) (sLen + m) sCap) (w.setRow g (cur.toList.take (sLen * i.size) ++ news ++ cur.toList.drop (sLen * i.size + news.length)).toArray):=by
  have hst:=run_storeCells_at P g (sLen * i.size) e' news 0 cur w hg (by simpa using hfit) hs.one
  simp only [Nat.add_zero] at hst
  rcases hs.kind with ⟨e',hk⟩ | hk <;> simp [Builtin.append_,run_und ht,run_und hk,sizeOf,typeInfo,hi,hs.len,hroom,hs.cells,add_none,hst]
theorem appended_src (hs:SOk C w) {tx:TypeId} (htx:(∃ e',P.underlying tx=some (.slice e')) ∨ P.underlying tx=some .string) {sz m:Nat} {x:AV} {ux:Value} {ys:List AV} (h:appended C.σ sz x=some (m,ys)) (hx:Rep C w x ux) :
    ∃ news,Src P sz tx ux m news w∧ys.length=m * sz∧allOne ys∧RepAll C w ys news:=by
  by_cases hstr:∃ s,x = .str s
  · obtain ⟨s, rfl⟩ := hstr
    simp only [appended] at h
    split at h
    · rename_i hsz
      subst hsz
      simp only [Option.some.injEq,Prod.mk.injEq] at h
      obtain ⟨rfl,rfl⟩:=h
      simp only [Rep] at hx
      subst hx
      refine ⟨byteCells s,⟨htx,fun _=>rfl,firstCells_string s w,firstCells_string s w.drew,by rw [byteCells_length,Nat.mul_one],?_⟩,?_,(bytes_rep (C:=C) (w:=w) _).2,(bytes_rep (C:=C) (w:=w) _).1⟩
      · intro u hu
        obtain ⟨_,_,rfl⟩:=List.mem_map.1 hu
        rfl
      · rw [Nat.mul_one, ← byteCells_length]
        simp [byteCells]
    · cases h
  obtain ⟨a,c,us,rfl,h1,h2,h3,h4⟩:=appended_run hs (fun s e=>hstr ⟨s,e⟩) h hx
  have hl:us.length=m * sz:=by rw [← h3.length,h1]
  refine ⟨us,?_,h1,h2,h3⟩
  have hone:=h3.oneCell h2
  by_cases hm:m=0
  · subst hm
    have hu:us=[]:=List.eq_nil_of_length_eq_zero (by rw [hl,Nat.zero_mul])
    subst hu
    cases a with
    | none=>exact ⟨htx,fun _=>rfl,run_firstCells_none w sz 0 0 c,run_firstCells_none w.drew sz 0 0 c,by simp,fun _ h=>by cases h⟩
    | some ad=>exact ⟨htx,fun _=>rfl,run_firstCells_some w sz 0 ad 0 c [] hl (by simp),run_firstCells_some w.drew sz 0 ad 0 c [] hl (by simp),by simp,fun _ h=>by cases h⟩
  · obtain ⟨ad, rfl, had⟩ := h4 (by omega)
    exact ⟨htx,fun _=>rfl,run_firstCells_some w sz m ad m c us hl had,run_firstCells_some w.drew sz m ad m c us hl (by simpa using had),hl,hone⟩
end Go.Vm
end
/- Rows that grow, rows that are made. -/
section
namespace Go.Vm
open Go.RowKit (Below)
variable [Fixed]
variable {P:Program} {C:Ctx} {w:World}

theorem cellsOf_eq {e:TypeId} {i:TypeInfo} (h:P.info? e=some i):P.cellsOf e=i.size∧P.bytesOf e=i.bytes:=by simp [Program.cellsOf,Program.bytesOf,h]

theorem makeSlicev_run (hs:SOk C w) {ro:Nat} (hro:ro ≤ C.σ.length) {t:TypeId} {l c v:AV} {ul uc:Value} {σ' : List Ob} (h:makeSlicev P t C.σ l c=some (v,σ')) (hl:Rep C w l ul) (hc:Rep C w c uc) :
    Did ro C w σ' v ((Instr.makeSlice t ul uc).run P w):=by
  unfold makeSlicev at h
  split at h
  · rename_i e kl a kc b hu
    simp only [Rep] at hl hc
    subst hl; subst hc
    split at h
    · rename_i hcond
      obtain ⟨rfl,ha,hb⟩:=hcond
      split at h
      · rename_i z hz
        obtain ⟨i,zv,hi,hzi,h1,h2,h3⟩:=zerov_run (C:=C) (w:=w) hz
        split at h
        · rename_i hzl
          simp only [Option.some.injEq,Prod.mk.injEq] at h
          obtain ⟨rfl,rfl⟩:=h
          obtain ⟨k1,k2⟩:=h2.cells' h3
          obtain ⟨e1,e2⟩:=cellsOf_eq hi
          have hzs:zv.cells.size=P.cellsOf e:=by rw [← hzl,k1.length]; simp
          obtain ⟨r1,r2,r3⟩:=replv_rep (C:=C) (w:=w) k1 k2 a.toNat
          rw [Nat.mul_add,Nat.mul_one] at hb
          have hb1:a.toNat * i.bytes ≤ 140737488355328:=by rw [← e2]; omega
          have hb2:a.toNat ≤ 140737488355328:=by omega
          have hbb : (i.bytes : Int) * a ≤ 281474976710656 := by
            have:((a.toNat * i.bytes:Nat):Int) ≤ 140737488355328:=by omega
            rw [Int.natCast_mul,Int.toNat_of_nonneg ha,Int.mul_comm] at this
            omega
          have hrun:=run_make (P:=P) w t e i zv hu hi hzi kl kc a a ha (Int.le_refl _) hbb (by omega)
          refine did_new hs (c:=a.toNat) (o' := .arr a.toNat (P.cellsOf e) (replv a.toNat z.cells)) hro (.inl rfl) hrun ?_ ?_
          · intro C' w' hk hX
            refine ⟨by rw [r3,hzl],r2,Nat.le_refl _,by simp only [maxLen]; omega,(madeCells zv.cells (a.toNat * i.size)).toList,[],e,by simpa using hX,?_,?_⟩
            · simp [size_madeCells,e1]
            · have : (madeCells zv.cells (a.toNat * i.size)).toList = (List.range (a.toNat * zv.cells.size)).map (fun i => zv.cells[i % zv.cells.size]!) := by
                rw [hzs,e1]
                simp only [madeCells,Array.toList_map,Array.toList_range,hzs,e1]
              rw [this]
              exact RepAll.mono hk _ _ r1
          · intro C' ho hφ hκ
            simp only [Rep]
            refine ⟨⟨_,_,rfl⟩,?_⟩
            unfold RowIs
            rw [ho]
            simp only [hφ,hκ]
            exact ⟨Nat.le_refl _,fun _=>trivial⟩
        · cases h
      · cases h
    · cases h
  · cases h

theorem arr_ok {C' : Ctx} {w' : World} {b cap n m sz:Nat} {cs ys:List AV} {us news:List Value} {e:TypeId} {rest:List Value} {X:Obj}
    (hl1:cs.length=n * sz) (hl2:ys.length=m * sz) (ho1:allOne cs) (ho2:allOne ys) (hr1:RepAll C' w' cs us) (hr2:RepAll C' w' ys news) (hcap:n + m ≤ cap) (hcm:cap ≤ maxLen)
    (hX:w'.heap[b]? = some X) (heq:X = .cells (us ++ news ++ rest).toArray e (0,0)) (hrest:rest.length=(cap - (n + m)) * sz):ObOk C' w' b cap (.arr (n + m) sz (cs ++ ys)):=by
  subst heq
  refine ⟨by rw [List.length_append,hl1,hl2,Nat.add_mul],ho1.append ho2,hcap,hcm,us ++ news,rest,e,hX,?_,hr1.append hr2⟩
  rw [List.length_append,← hr1.length,← hr2.length,hl1,hl2,hrest,← Nat.add_mul,← Nat.add_mul]
  congr 1
  omega

theorem u8_of {k:Int} (h:0 ≤ k∧k < 256):((UInt8.ofNat k.toNat).toNat:Int)=k:=by
  have : (UInt8.ofNat k.toNat).toNat = k.toNat := by
    rw [UInt8.toNat_ofNat']
    exact Nat.mod_eq_of_lt (by omega)
  rw [this]
  omega
theorem decB_vals:∀ {cs:List AV} {l:List UInt8} {us:List Value},decB cs=some l→RepAll C w cs us→us=l.map valB∧cs.length=l.length
  | [], l, us, h, hr => by
    simp only [decB,Option.some.injEq] at h
    subst h
    cases us with
    | nil=>exact ⟨rfl,rfl⟩
    | cons u us=>simp only [RepAll] at hr
  | c :: cs, l, us, h, hr => by
    unfold decB at h
    split at h
    · cases ‹c::cs=[]›
    · rename_i k r e
      simp only [List.cons.injEq] at e
      obtain ⟨rfl,rfl⟩:=e
      split at h
      · rename_i hk
        split at h
        · rename_i l' hl'
          simp only [Option.some.injEq] at h
          subst h
          cases us with
          | nil=>simp only [RepAll] at hr
          | cons u us =>
            simp only [RepAll,Rep] at hr
            obtain ⟨h1,h2⟩:=decB_vals hl' hr.2
            refine ⟨?_,by simp [h2]⟩
            rw [h1,hr.1,List.map_cons]
            congr 1
            unfold valB
            rw [u8_of hk]
        · cases h
      · cases h
    · cases h
theorem isByte_cells {P:Program} {e:TypeId} (h:isByte P e=true):P.cellsOf e=1:=by
  unfold isByte at h
  rw [Bool.and_eq_true] at h
  exact Nat.eq_of_beq_eq_true h.2
theorem newOb_is (P:Program) (e:TypeId) (n sz:Nat) (cs:List AV):(newOb P e n sz cs = .arr n sz cs) ∨ ∃ l,isByte P e=true∧decB cs=some l∧newOb P e n sz cs = .brow e l:=by
  unfold newOb
  split
  · rename_i l h
    split at h
    · rename_i hb
      exact .inr ⟨l,hb,h,rfl⟩
    · cases h
  · exact .inl rfl
/-- A new row, over its block. -/
theorem newOb_ok {P:Program} {C' : Ctx} {w' : World} {b cap n m sz:Nat} {cs ys:List AV} {us news:List Value} {e:TypeId} {rest:List Value} {X:Obj} (hsz:sz=P.cellsOf e)
    (hl1:cs.length=n * sz) (hl2:ys.length=m * sz) (ho1:allOne cs) (ho2:allOne ys) (hr1:RepAll C' w' cs us) (hr2:RepAll C' w' ys news) (hcap:n + m ≤ cap) (hcm:cap ≤ maxLen)
    (hX:w'.heap[b]? = some X) (heq:X = .cells (us ++ news ++ rest).toArray e (0,0)) (hrest:rest.length=(cap - (n + m)) * sz):ObOk C' w' b cap (newOb P e (n + m) sz (cs ++ ys)):=by
  rcases newOb_is P e (n + m) sz (cs ++ ys) with h | ⟨l,hb,hl,h⟩
  · rw [h]
    exact arr_ok hl1 hl2 ho1 ho2 hr1 hr2 hcap hcm hX heq hrest
  · rw [h]
    have h1:=isByte_cells hb
    rw [h1] at hsz
    subst hsz
    obtain ⟨k1,k2⟩:=decB_vals hl (hr1.append hr2)
    rw [List.length_append,hl1,hl2] at k2
    have hll:l.length=n + m:=by omega
    refine ⟨by omega,hcm,rest,?_,by omega⟩
    rw [← k1,hX,heq]
theorem newOb_row {P:Program} {C' : Ctx} {id n m sz:Nat} {cs ys:List AV} {us:List Value} {e:TypeId} {p:Nat→Nat→Prop} {C0:Ctx} {w0:World} (hsz:sz=P.cellsOf e) (hl1:cs.length=n * sz) (hl2:ys.length=m * sz) (hr:RepAll C0 w0 (cs ++ ys) us)
    (ho:C'.σ[id]? = some (newOb P e (n + m) sz (cs ++ ys))) (hp:p (C'.φ id) (C'.κ id)):RowIs C' id (n + m) p:=by
  unfold RowIs
  rw [ho]
  rcases newOb_is P e (n + m) sz (cs ++ ys) with h | ⟨l,hb,hl,h⟩
  · rw [h]
    exact ⟨Nat.le_refl _,fun _=>hp⟩
  · rw [h]
    have h1:=isByte_cells hb
    rw [h1] at hsz
    subst hsz
    obtain ⟨_,k2⟩:=decB_vals hl hr
    rw [List.length_append,hl1,hl2] at k2
    exact ⟨by omega,fun _=>hp⟩
theorem appendv_run (hs:SOk C w) {ro:Nat} (hro:ro ≤ C.σ.length) {t tx ty:TypeId} (htx:tx=t ∨ P.underlying tx=some .string) {s x v:AV} {us ux:Value} {σ' : List Ob} (h:appendv P t C.σ ro s x=some (v,σ')) (hrs:Rep C w s us) (hrx:Rep C w x ux) :
    Did ro C w σ' v ((Builtin.append_ #[t,tx] ty #[us,ux]).run P w):=by
  unfold appendv at h
  split at h
  · rename_i e hu
    split at h
    · rename_i m ys z hap hz
      obtain ⟨i,zv,hi,hzi,_,h2,h3⟩:=zerov_run (C:=C) (w:=w) hz
      obtain ⟨e1,e2⟩:=cellsOf_eq hi
      have hkind : (∃ e', P.underlying tx = some (.slice e')) ∨ P.underlying tx = some .string := by
        rcases htx with rfl | h
        · exact .inl ⟨e,hu⟩
        · exact .inr h
      obtain ⟨news,hsrc,hyl,hyo,hyr⟩:=appended_src hs hkind hap hrx
      rw [e1] at hsrc
      split at h
      · rename_i hcond
        obtain ⟨_,hzl⟩:=hcond
        obtain ⟨k1,k2⟩:=h2.cells' h3
        have hzs:zv.cells.size=P.cellsOf e:=by rw [← hzl,k1.length]; simp
        have hnl:news.length=m * i.size:=by rw [← hyr.length,hyl,e1]
        split at h
        · rename_i k n sz cs
          split at h
          · rename_i hc
            obtain ⟨hk,hnsz,_,hb⟩:=hc
            simp only [Rep] at hrs
            obtain ⟨h0,h1,a,cap,rfl,hn,hcm,hclip,hnil,hrow⟩:=hrs
            rw [Nat.mul_add,Nat.mul_one,e2] at hb
            split at h
            · rename_i hm
              subst hm
              simp only [Option.some.injEq,Prod.mk.injEq] at h
              obtain ⟨rfl,rfl⟩:=h
              refine ⟨_,w,C,append_zero_src hu hi hsrc a n cap hn,rfl,hs,Grow.refl ..,?_⟩
              simp only [Rep]
              exact ⟨h0,h1,a,cap,rfl,hn,hcm,hclip,hnil,hrow⟩
            · rename_i hm
              simp only [Option.some.injEq,Prod.mk.injEq] at h
              obtain ⟨rfl,rfl⟩:=h
              have hcl : cs.length = n * P.cellsOf e := by
                rcases hnsz with hz0 | hz0
                · rw [h0,hz0]; simp
                · rw [h0,hz0]
              have hcapn : cap = n := by
                rcases hk with hk | hk
                · have:=hnil hk; omega
                · exact hclip hk
              subst hcapn
              have hge:∀ old,cap + m ≤ grownCap w (cap + m) old e:=fun old=>grownCap_ge w (cap + m) old e
              have hle:∀ old,grownCap w (cap + m) old e ≤ maxLen:=fun old=>grownCap_le_maxLen w (cap + m) old e (by simp only [maxLen]; omega)
              have fin : ∀ (old : Nat) (olds : List Value) (r : Result Value), RepAll C w cs olds →
                  r = .ok (.slice (some ⟨w.heap.size,0,none⟩) (cap + m) (grownCap w (cap + m) old e)) (w.drew.alloc (.cells (olds.toArray ++ news.toArray ++ Builtin.zeroCells zv.cells (grownCap w (cap + m) old e - (cap + m))) e)) →
                  Did ro C w (C.σ ++ [newOb P e (cap + m) (P.cellsOf e) (cs ++ ys)]) (.own C.σ.length (cap + m)) r:=by
                intro old olds r hol hr
                refine did_new hs (c:=grownCap w (cap + m) old e) hro (.inr rfl) hr ?_ ?_
                · intro C' w' hkk hX
                  refine newOb_ok rfl hcl hyl h1 hyo (RepAll.mono hkk _ _ hol) (RepAll.mono hkk _ _ hyr) (hge old) (hle old) hX (rest:=(Builtin.zeroCells zv.cells (grownCap w (cap + m) old e - (cap + m))).toList) (e:=e) ?_ ?_
                  · congr 1
                    apply Array.ext'
                    simp
                  · simp [size_zeroCells,hzs]
                · intro C' ho hφ hκ
                  simp only [Rep]
                  refine ⟨⟨_,_,rfl⟩,newOb_row rfl hcl hyl (hol.append hyr) ho ?_⟩
                  rw [hφ,hκ]
              cases a with
              | none =>
                have hn0 : cap = 0 := by
                  by_cases h0:cap=0
                  · exact h0
                  · obtain ⟨_, _, _, hh, _⟩ := hrow (by omega)
                    cases hh
                subst hn0
                have hcs:cs=[]:=List.eq_nil_of_length_eq_zero (by simpa using hcl)
                subst hcs
                simp only [Nat.zero_add] at hb
                have hr:=run_append_grow_src (P:=P) w t tx ty e i zv hu hi hzi none 0 0 [] (run_firstCells_none w.drew i.size 0 0 0) ux m news hsrc (by omega) (by omega) (growslice_fits (by rw [Nat.zero_add]; omega) (by rw [Nat.zero_add]; omega))
                refine fin 0 [] _ (by simp only [RepAll]) ?_
                simpa using hr
              | some b =>
                have holds : ∃ olds, RepAll C w cs olds ∧ olds.length = cap * i.size ∧ ∀ j x, olds[j]? = some x → w.cell? (b.add j) = some x := by
                  by_cases h0:cap=0
                  · subst h0
                    have hcs:cs=[]:=List.eq_nil_of_length_eq_zero (by simpa using hcl)
                    subst hcs
                    exact ⟨[],by simp only [RepAll],by simp,by simp⟩
                  · obtain ⟨b', o, us, hh, _, _, k4, k5⟩ := hrow (by omega)
                    cases hh
                    exact ⟨us,k5,by rw [← k5.length,hcl,e1],fun j x hj=>by rw [add_none]; exact k4 j x hj⟩
                obtain ⟨olds,o1,o2,o3⟩:=holds
                have hr:=run_append_grow_src (P:=P) w t tx ty e i zv hu hi hzi (some b) cap cap olds (run_firstCells_some w.drew i.size cap b cap cap olds o2 (by simpa using o3)) ux m news hsrc (by omega) (by omega) (growslice_fits (by omega) (by omega))
                exact fin cap olds _ o1 (by simpa using hr)
          · cases h
        · rename_i id n
          simp only [Rep] at hrs
          obtain ⟨⟨a,cap,rfl⟩,hrow⟩:=hrs
          have hrow0:=hrow
          unfold RowIs at hrow
          split at h
          · rename_i t' l ho
            split at h
            · rename_i hc
              obtain ⟨hn,hroi,hte,hsz1,hb⟩:=hc
              subst hn
              subst hte
              rw [ho] at hrow
              have he:=hrow.2 rfl
              simp only [Value.slice.injEq,true_and] at he
              obtain ⟨rfl,rfl⟩:=he
              obtain ⟨hnc,hcm,vs,hg,h4⟩:=hs.ob id _ ho
              rw [Nat.mul_add,Nat.mul_one,e2] at hb
              have hi1:i.size=1:=by rw [← e1,hsz1]
              split at h
              · rename_i hm
                subst hm
                simp only [Option.some.injEq,Prod.mk.injEq] at h
                obtain ⟨rfl,rfl⟩:=h
                refine ⟨_,w,C,append_zero_src hu hi hsrc _ l.length _ hnc,rfl,hs,Grow.refl ..,?_⟩
                simp only [Rep]
                exact ⟨⟨_,_,rfl⟩,hrow0⟩
              · rename_i hm
                split at h
                · rename_i l' hl'
                  simp only [Option.some.injEq,Prod.mk.injEq] at h
                  obtain ⟨rfl,rfl⟩:=h
                  obtain ⟨k1,k2⟩:=decB_vals hl' hyr
                  have hlm:l'.length=m:=by rw [← k2,hyl,hsz1,Nat.mul_one]
                  have hul:(l.map valB).length=l.length * i.size:=by rw [List.length_map,hi1,Nat.mul_one]
                  have hnl' : news.length=m:=by rw [hnl,hi1,Nat.mul_one]
                  have hpost : ∀ (C' : Ctx), C'.σ[id]? = some (Ob.brow t' (l ++ l')) → ∀ (b c : Nat), C'.φ id = b → C'.κ id = c → Rep C' w (.own id (l.length + m)) (.slice (some ⟨b, 0, none⟩) (l.length + m) c) := by
                    intro C' ho' b c hφ hκ
                    simp only [Rep]
                    refine ⟨⟨_,_,rfl⟩,?_⟩
                    unfold RowIs
                    rw [ho']
                    simp only [hφ,hκ,List.length_append,hlm]
                    exact ⟨Nat.le_refl _,fun _=>trivial⟩
                  by_cases hroom:l.length + m ≤ C.κ id
                  · have hfit : l.length * i.size + news.length ≤ (l.map valB).length + vs.length := by
                      rw [hnl',hi1,Nat.mul_one,List.length_map]; omega
                    have hr:=append_room_src (P:=P) (ty:=ty) hu hi (C.φ id) l.length (C.κ id) _ hg hsrc hroom (by simpa using hfit)
                    refine did_row hs ho trivial hroi hg hr (.inl ⟨l ++ l',rfl,by simp,fun _=>trivial⟩) ?_ ?_
                    · intro C' w' hk hX
                      refine ⟨by rw [List.length_append,hlm]; exact hroom,hcm,vs.drop news.length,?_,?_⟩
                      · rw [hX]
                        congr 2
                        simp only [← hul]
                        rw [take_left' _ vs rfl,drop_left' _ vs rfl,List.map_append,k1]
                      · rw [List.length_drop, hnl', List.length_append, hlm]
                        omega
                    · intro C' ho' hφ hκ
                      have:=hpost C' ho' _ _ hφ hκ
                      simpa only [Rep] using this
                  · have hh := holds_cells hg
                    have hr:=run_append_grow_src (P:=P) w t tx ty t' i zv hu hi hzi (some ⟨C.φ id,0,none⟩) l.length (C.κ id) (l.map valB) (run_firstCells_some w.drew i.size l.length ⟨C.φ id,0,none⟩ l.length (C.κ id) (l.map valB) hul (fun j x hj=>by rw [add_none]; exact hh j x hj)) ux m news hsrc (by omega) (by omega) (growslice_fits (by omega) (by omega))
                    have hge:=grownCap_ge w (l.length + m) (C.κ id) t'
                    have hle:=grownCap_le_maxLen w (l.length + m) (C.κ id) t' (by simp only [maxLen]; omega)
                    refine did_move hs (c:=grownCap w (l.length + m) (C.κ id) t') ho trivial hroi hr (.inl ⟨l ++ l',rfl,by simp,fun e=>by rw [List.length_append,hlm] at e; omega⟩) ?_ ?_
                    · intro C' w' hk hX
                      refine ⟨by rw [List.length_append,hlm]; exact hge,hle,(Builtin.zeroCells zv.cells (grownCap w (l.length + m) (C.κ id) t' - (l.length + m))).toList,?_,?_⟩
                      · rw [hX]
                        congr 2
                        rw [List.map_append,← k1]
                        apply Array.ext'
                        simp
                      · rw [List.length_append, hlm]
                        simp only [Array.length_toList]
                        rw [size_zeroCells,hzs,hsz1]
                        omega
                    · intro C' ho' hφ hκ
                      have:=hpost C' ho' _ _ hφ hκ
                      simpa only [Rep] using this
                · cases h
            · cases h
          · rename_i n' sz cs ho
            split at h
            · rename_i hc
              obtain ⟨hn,hroi,hsz,hb⟩:=hc
              subst hn
              subst hsz
              rw [ho] at hrow
              have he:=hrow.2 rfl
              simp only [Value.slice.injEq,true_and] at he
              obtain ⟨rfl,rfl⟩:=he
              obtain ⟨h0,h1,hnc,hcm,us,vs,e',hg,h4,h5⟩:=hs.ob id _ ho
              rw [Nat.mul_add,Nat.mul_one,e2] at hb
              split at h
              · rename_i hm
                subst hm
                simp only [Option.some.injEq,Prod.mk.injEq] at h
                obtain ⟨rfl,rfl⟩:=h
                refine ⟨_,w,C,append_zero_src hu hi hsrc _ n' _ hnc,rfl,hs,Grow.refl ..,?_⟩
                simp only [Rep]
                exact ⟨⟨_,_,rfl⟩,hrow0⟩
              · rename_i hm
                simp only [Option.some.injEq,Prod.mk.injEq] at h
                obtain ⟨rfl,rfl⟩:=h
                have hul:us.length=n' * i.size:=by rw [← h5.length,h0,e1]
                by_cases hroom:n' + m ≤ C.κ id
                · have hfit : n' * i.size + news.length ≤ us.length + vs.length := by
                    rw [hnl,h4,e1,← Nat.add_mul]; exact Nat.mul_le_mul_right _ hroom
                  have hr:=append_room_src (P:=P) (ty:=ty) hu hi (C.φ id) n' (C.κ id) _ hg hsrc hroom (by simpa using hfit)
                  refine did_row hs ho trivial hroi hg hr (.inl ⟨n' + m,_,_,.inl rfl,by omega,fun _=>trivial⟩) ?_ ?_
                  · intro C' w' hk hX
                    refine arr_ok h0 hyl h1 hyo (RepAll.mono hk _ _ h5) (RepAll.mono hk _ _ hyr) hroom hcm hX (rest:=vs.drop news.length) (e:=e') ?_ ?_
                    · congr 1
                      simp only [← hul]
                      congr 1
                      rw [take_left' us vs rfl,drop_left' us vs rfl]
                    · have h4' := h4
                      rw [hul,e1] at h4'
                      rw [List.length_drop,hnl,Nat.sub_mul,e1,Nat.add_mul]
                      omega
                  · intro C' ho' hφ hκ
                    simp only [Rep]
                    refine ⟨⟨_,_,rfl⟩,?_⟩
                    unfold RowIs
                    rw [ho']
                    simp only [hφ,hκ]
                    exact ⟨Nat.le_refl _,fun _=>trivial⟩
                · have hh := holds_cells hg
                  have hr:=run_append_grow_src (P:=P) w t tx ty e i zv hu hi hzi (some ⟨C.φ id,0,none⟩) n' (C.κ id) us (run_firstCells_some w.drew i.size n' ⟨C.φ id,0,none⟩ n' (C.κ id) us hul (fun j x hj=>by rw [add_none]; exact hh j x hj)) ux m news hsrc (by omega) (by omega) (growslice_fits (by omega) (by omega))
                  have hge:=grownCap_ge w (n' + m) (C.κ id) e
                  have hle:=grownCap_le_maxLen w (n' + m) (C.κ id) e (by simp only [maxLen]; omega)
                  refine did_move hs (c:=grownCap w (n' + m) (C.κ id) e) ho trivial hroi hr (.inl ⟨n' + m,_,_,.inl rfl,by omega,fun e=>by omega⟩) ?_ ?_
                  · intro C' w' hk hX
                    refine arr_ok h0 hyl h1 hyo (RepAll.mono hk _ _ h5) (RepAll.mono hk _ _ hyr) hge hle hX (rest:=(Builtin.zeroCells zv.cells (grownCap w (n' + m) (C.κ id) e - (n' + m))).toList) (e:=e) ?_ ?_
                    · congr 1
                      apply Array.ext'
                      simp
                    · simp [size_zeroCells,hzs]
                  · intro C' ho' hφ hκ
                    simp only [Rep]
                    refine ⟨⟨_,_,rfl⟩,?_⟩
                    unfold RowIs
                    rw [ho']
                    simp only [hφ,hκ]
                    exact ⟨Nat.le_refl _,fun _=>trivial⟩
            · cases h
          · cases h
        · cases h
      · cases h
    · cases h
  · cases h
theorem capv_run {t ty:TypeId} {ts:Array TypeId} {x v:AV} {u:Value} (ht:ts[0]? = some t) (h:capv P t x=some v) (hx:Rep C w x u):∃ z,(Builtin.cap_ ts ty #[u]).run P w = .ok z w∧Rep C w v z:=by
  unfold capv at h
  split at h
  · rename_i hu
    simp only [Option.some.injEq] at h
    subst h
    simp only [Rep] at hx
    obtain ⟨_,_,a,cap,rfl,_,_,_,hn,_⟩:=hx
    have:=(hn trivial).2
    subst this
    exact ⟨_,by simp [Builtin.cap_,ht,run_und hu,goInt],rfl⟩
  · rename_i hu
    simp only [Option.some.injEq] at h
    subst h
    simp only [Rep] at hx
    obtain ⟨_,_,a,cap,rfl,_,_,hn,_,_⟩:=hx
    have:=hn trivial
    subst this
    exact ⟨_,by simp [Builtin.cap_,ht,run_und hu,goInt],rfl⟩
  · cases h

theorem cutOwn_run (hs:SOk C w) {ro:Nat} {t:TypeId} {x v:AV} {lo hi mx:Option AV} {u:Value} {ulo uhi umx:Option Value} {σ' : List Ob} (h:cutOwn P t C.σ ro x lo hi mx=some (v,σ')) (hx:Rep C w x u)
    (hl:OptRep C w lo ulo) (hh:OptRep C w hi uhi) (hm:OptRep C w mx umx):Did ro C w σ' v ((Instr.sliceAt t u ulo uhi umx).run P w):=by
  unfold cutOwn at h
  split at h
  · rename_i id n ik k
    split at h
    · rename_i e n' sz cs hu ho
      split at h
      · rename_i hc
        obtain ⟨rfl,rfl,hro,hinf⟩:=hc
        simp only [Option.some.injEq,Prod.mk.injEq] at h
        obtain ⟨rfl,rfl⟩:=h
        cases ulo with
        | some _=>exact hl.elim
        | none =>
          cases umx with
          | some _=>exact hm.elim
          | none =>
            cases uhi with
            | none=>exact hh.elim
            | some uh =>
              have hh' : Rep C w (.int ik 0) uh:=hh
              simp only [Rep] at hx hh'
              subst hh'
              obtain ⟨_,hrow⟩:=hx
              unfold RowIs at hrow
              rw [ho] at hrow
              have hue:=hrow.2 rfl
              subst hue
              obtain ⟨h0,h1,hnc,hcm,us,vs,e',hg,h4,h5⟩:=hs.ob id _ ho
              obtain ⟨a1,a2⟩:=anew_one hs (o' := .arr 0 sz []) ho hro (fun hk=>⟨by simp,trivial,Nat.zero_le _,hcm,[],us ++ vs,e',by simpa using hg,by simpa using h4,by simp only [RepAll]⟩)
              refine ⟨.slice (some ⟨C.φ id,0,none⟩) 0 (C.κ id),w,C.anew id (.arr 0 sz []),?_,rfl,a1,a2,?_⟩
              · have hb := bounds_run (P := P) (C := C) (w := w) (isS := true) (n := n') (cap := C.κ id) (m := n') (h := 0) (l := 0) (lo := none) (hi := some (.int ik 0)) (mx := none) (ulo := none) (uhi := some (.int ik 0)) (umx := none)
                  rfl (by simp [boundv]) rfl trivial (by simp only [OptRep,Rep]) trivial hnc (by simp)
                simp only [Option.isSome_none,Bool.false_eq_true,if_false] at hb
                have e1 : (Instr.sliceAt t (.slice (some ⟨C.φ id, 0, none⟩) n' (C.κ id)) none (some (.int ik 0)) none).run P w = (Instr.slice t (.slice (some ⟨C.φ id, 0, none⟩) n' (C.κ id)) none (some (.int ik 0)) none).run P w := by
                  simp only [Instr.sliceAt,Sem.run_bind,run_und hu,Result.andThen]
                rw [e1]
                simp only [Instr.slice,Sem.run_bind,run_und hu,Result.andThen,hb,run_size hinf,Sem.run_pure]
                simp [Addr.add]
              · simp only [Rep]
                refine ⟨⟨_,_,rfl⟩,?_⟩
                unfold RowIs
                have hget : (C.anew id (.arr 0 sz [])).σ[C.σ.length]? = some (.arr 0 sz []) := by
                  simp only [Ctx.anew]
                  rw [List.getElem?_append_right (by rw [setOb_length]; exact Nat.le_refl _),setOb_length]
                  simp
                rw [hget]
                simp only [Ctx.anew,upd_same]
                exact ⟨Nat.le_refl _,fun _=>trivial⟩
      · cases h
    · cases h
  · cases h

theorem appendZv_run (hs:SOk C w) {ro:Nat} (hro:ro ≤ C.σ.length) {t t' ty:TypeId} {s x v:AV} {us ux:Value} {σ' : List Ob} (h:appendZv P t t' C.σ s x=some (v,σ')) (hrs:Rep C w s us) (hrx:Rep C w x ux) :
    Did ro C w σ' v ((Builtin.append_ #[t,t'] ty #[us,ux]).run P w):=by
  unfold appendZv at h
  split at h
  · rename_i e ik n sz cs k m hu hu'
    simp only [Rep] at hrx
    subst hrx
    split at h
    · rename_i hc
      obtain ⟨hm0,hb⟩:=hc
      split at h
      · rename_i z hz
        obtain ⟨i,zv,hi,hzi,h1,h2,h3⟩:=zerov_run (C:=C) (w:=w) hz
        split at h
        · rename_i hzl
          obtain ⟨k1,k2⟩:=h2.cells' h3
          obtain ⟨e1,e2⟩:=cellsOf_eq hi
          have hzs:zv.cells.size=P.cellsOf e:=by rw [← hzl,k1.length]; simp
          rw [Nat.mul_add,Nat.mul_one,e2] at hb
          have hrs' := hrs
          simp only [Rep] at hrs
          obtain ⟨h0,_,a,cap,rfl,hn,_,_,hnil,_⟩:=hrs
          obtain ⟨rfl,rfl⟩:=hnil trivial
          have hn0:n=0:=by omega
          subst hn0
          have wm:IntKind.i64.wrap m=m:=by rw [IntKind.wrap_i64]; omega
          have n1 : ¬ m < 0:=by omega
          have hbb : ¬ (281474976710656 < m * (i.bytes : Int)) := by
            have h5:((m.toNat * i.bytes:Nat):Int) ≤ 140737488355328:=by omega
            rw [Int.natCast_mul,Int.toNat_of_nonneg hm0] at h5
            omega
          split at h
          · rename_i hm
            subst hm
            simp only [Option.some.injEq,Prod.mk.injEq] at h
            obtain ⟨rfl,rfl⟩:=h
            refine ⟨.slice none 0 0,w,C,?_,rfl,hs,Grow.refl ..,hrs'⟩
            simp [Builtin.append_,run_und hu,run_und hu',run_size (P:=P) (w:=w) (t:=e) (by simp [hi]),asInt,asIntOf,typeInfo,hi,wm]
          · rename_i hm
            simp only [Option.some.injEq,Prod.mk.injEq] at h
            obtain ⟨rfl,rfl⟩:=h
            have hpos:0 < m.toNat:=by omega
            obtain ⟨r1,r2,r3⟩:=replv_rep (C:=C) (w:=w) k1 k2 m.toNat
            have hz0:m.toNat ≠ 0:=by omega
            have h63 : ¬ (9223372036854775807 < (m.toNat:Int)):=by omega
            have h48 : ¬ (281474976710656 < Builtin.nextslicecap m.toNat 0 * i.bytes):=by rw [nextslicecap_zero hpos]; omega
            have hrun : (Builtin.append_ #[t, t'] ty #[.slice none 0 0, .int k m]).run P w = .ok (.slice (some ⟨w.heap.size, 0, none⟩) m.toNat (grownCap w m.toNat 0 e))
                (w.drew.alloc (.cells (Builtin.zeroCells zv.cells m.toNat ++ Builtin.zeroCells zv.cells (grownCap w m.toNat 0 e - m.toNat)) e)):=by
              have hmle : ¬ m ≤ 0:=by omega
              have hmax : ¬ (9223372036854775807 < max m 0):=by omega
              by_cases hzz:m.toNat * i.size=0
              · have hemp : Builtin.zeroCells zv.cells m.toNat = #[] := by
                  have:(Builtin.zeroCells zv.cells m.toNat).size=0:=by rw [size_zeroCells,hzs,e1,hzz]
                  exact Array.eq_empty_of_size_eq_zero this
                simp [Builtin.append_,run_und hu,run_und hu',sizeOf,typeInfo,zeroValue,hi,hzi,asInt,asIntOf,wm,n1,hbb,hmle,hmax,hzz,h48,Question.forced,run_firstCells_none,newRow,grownCap,hemp]
              · simp [Builtin.append_,run_und hu,run_und hu',sizeOf,typeInfo,zeroValue,hi,hzi,asInt,asIntOf,wm,n1,hbb,hmle,hmax,hzz,h48,Question.forced,run_firstCells_none,newRow,grownCap]
            have hge:=grownCap_ge w m.toNat 0 e
            have hle:=grownCap_le_maxLen w m.toNat 0 e (by simp only [maxLen]; omega)
            refine did_new hs (c:=grownCap w m.toNat 0 e) hro (.inr rfl) hrun ?_ ?_
            · intro C' w' hk hX
              refine ⟨by rw [r3,hzl],r2,hge,hle,(Builtin.zeroCells zv.cells m.toNat).toList,(Builtin.zeroCells zv.cells (grownCap w m.toNat 0 e - m.toNat)).toList,e,?_,?_,?_⟩
              · rw [hX]
                congr 2
                apply Array.ext'
                simp
              · simp only [Array.length_toList, size_zeroCells, hzs]
                rw [← Nat.add_mul]
                congr 1
                omega
              · have : (Builtin.zeroCells zv.cells m.toNat).toList = (List.range (m.toNat * zv.cells.size)).map (fun i => zv.cells[i % zv.cells.size]!) := by simp [Builtin.zeroCells]
                rw [this]
                exact RepAll.mono hk _ _ r1
            · intro C' ho hφ hκ
              simp only [Rep]
              refine ⟨⟨_,_,rfl⟩,?_⟩
              unfold RowIs
              rw [ho]
              simp only [hφ,hκ]
              exact ⟨Nat.le_refl _,fun _=>trivial⟩
        · cases h
      · cases h
    · cases h
  · cases h
end Go.Vm
end
/- Maps. -/
section
namespace Go.Vm
open Go.RowKit (Below)
variable [Fixed]
variable {P:Program} {C:Ctx} {w:World}

theorem checkKey_run {kd:TypeDesc} {kt:TypeId} {k:AV} {u:Value} {e:Bool} (hu:P.underlying kt=some kd) (hk:isKey kd k=true) (hr:Rep C w k u):(Instr.checkKey e 10000 kt u).run P w = .ok () w:=by
  have : (Instr.checkKey e (9999 + 1) kt u).run P w = .ok () w := by
    unfold Instr.checkKey
    simp only [Sem.run_bind,run_und hu,Result.andThen]
    cases k <;> simp only [isKey,Bool.false_eq_true] at hk <;> simp only [Rep] at hr <;> subst hr <;> cases kd <;> simp_all
  exact this
theorem ba_beq (a b:ByteArray):(a == b)=decide (a=b):=by
  cases a with | mk x=>cases b with | mk y =>
  have:((⟨x⟩:ByteArray) == ⟨y⟩)=(x == y):=rfl
  rw [this,Bool.eq_iff_iff]
  simp
/-- Two keys are one. -/
theorem same_run {kd:TypeDesc} {k k' : AV} {u u' : Value} {v:AV} {r:Option AV} (hk:isKey kd k=true) (h:lookupEs k [(k',v)]=some r) (hr:Rep C w k u) (hr' : Rep C w k' u') :
    Instr.sameNow kd u u' = some r.isSome∧(r.isSome=true→r=some v∧u=u' ∧ Instr.sameBits 10000 u' u=true):=by
  cases k <;> simp only [isKey,Bool.false_eq_true] at hk <;> cases k' <;> simp only [lookupEs,reduceCtorEq] at h <;> simp only [Rep] at hr hr' <;> subst hr <;> subst hr' <;> cases kd <;> simp only [Bool.false_eq_true] at hk
  · split at h
    · split at h
      · rename_i h1 h2
        subst h1; subst h2
        simp only [Option.some.injEq] at h
        subst h
        simp [Instr.sameNow,Instr.sameBits,ba_beq]
      · rename_i h1 h2
        subst h1
        simp only [Option.some.injEq] at h
        subst h
        simp [Instr.sameNow,h2,ba_beq]
    · cases h
  · split at h
    · rename_i h2
      subst h2
      simp only [Option.some.injEq] at h
      subst h
      simp [Instr.sameNow,Instr.sameBits,ba_beq]
    · rename_i h2
      simp only [Option.some.injEq] at h
      subst h
      simp [Instr.sameNow,h2,ba_beq]
  · split at h
    · rename_i h2
      subst h2
      simp only [Option.some.injEq] at h
      subst h
      simp [Instr.sameNow,Instr.sameBits,ba_beq]
    · rename_i h2
      simp only [Option.some.injEq] at h
      subst h
      simp [Instr.sameNow,h2,ba_beq]
theorem lookup_cons {k k' v:AV} {es:List (AV × AV)}:lookupEs k ((k',v)::es)=match lookupEs k [(k',v)] with
    | some (some x)=>some (some x)
    | some none=>lookupEs k es
    | none=>none:=by
  cases k <;> cases k' <;> simp only [lookupEs] <;> (repeat' split) <;> simp_all

theorem find_run {kd:TypeDesc} {k:AV} {u:Value} (hk:isKey kd k=true) (hr:Rep C w k u):∀ (es:List (AV × AV)) (ms:List MapEntry) (i:Nat) (r:Option AV),lookupEs k es=some r→RepEs C w es ms →
    ∃ q,Instr.findNow kd u ms i=some q∧(match r,q with | none,none=>True | some v,some (_,x)=>Rep C w v x | _,_=>False)
  | [], ms, i, r, h, hm => by
    cases ms with
    | cons _ _=>exact hm.elim
    | nil =>
      simp only [lookupEs,Option.some.injEq] at h
      subst h
      exact ⟨none,rfl,trivial⟩
  | (k', v) :: es, ms, i, r, h, hm => by
    cases ms with
    | nil=>exact hm.elim
    | cons m ms =>
      rw [lookup_cons] at h
      cases hl:lookupEs k [(k',v)] with
      | none=>rw [hl] at h; cases h
      | some r1 =>
        obtain ⟨s1,s2⟩:=same_run hk hl hr hm.1.2
        rw [hl] at h
        cases r1 with
        | some x =>
          simp only [Option.some.injEq] at h
          subst h
          obtain ⟨e,_,_⟩:=s2 rfl
          cases e
          exact ⟨some (i,m.val),by simp only [Instr.findNow]; rw [s1]; rfl,hm.2.1⟩
        | none =>
          simp only at h
          obtain ⟨q,q1,q2⟩:=find_run hk hr es ms (i + 1) r h hm.2.2
          exact ⟨q,by simp only [Instr.findNow]; rw [s1]; exact q1,q2⟩

theorem getObj_map {b:Nat} {ms:Array MapEntry} {cl:Nat} (h:w.heap[b]? = some (.map ms cl)):(getObj b).run P w = .ok (.map ms cl) w:=by simp [getObj,Sem.run,h]
theorem setObj_map {b:Nat} {ms:Array MapEntry} {cl:Nat} {o:Obj} (h:w.heap[b]? = some (.map ms cl)):(setObj b o).run P w = .ok () { w with heap:=w.heap.setIfInBounds b o }:=by simp [setObj,Sem.run,h]
theorem findKey_run {kd:TypeDesc} {kt:TypeId} {u:Value} {ms:List MapEntry} {q:Option (Nat × Value)} (hu:P.underlying kt=some kd) (h:Instr.findNow kd u ms 0=some q):(Instr.findKey kt u ms).run P w = .ok q w:=by
  simp only [Instr.findKey,Sem.run_bind,run_und hu,Result.andThen,h,Sem.run_pure]

theorem lookupv_run {t:TypeId} {m k v:AV} {um uk:Value} {ok:Bool} (hs:SOk C w) (h:lookupv P t C.σ m k ok=some v) (hm:Rep C w m um) (hk:Rep C w k uk) :
    ∃ z,(Instr.lookup t um uk ok).run P w = .ok z w∧Rep C w v z:=by
  unfold lookupv at h
  split at h
  · rename_i kt e hu
    split at h
    · rename_i kd es hkd hes
      split at h
      · rename_i hkey
        -- the entries
        have hent : ∃ ms : Array MapEntry, RepEs C w es ms.toList ∧ ((um = .map none ∧ ms = #[]) ∨ ∃ b cl, um = .map (some b) ∧ w.heap[b]? = some (.map ms cl)) := by
          unfold entriesOf at hes
          split at hes
          · simp only [Option.some.injEq] at hes
            subst hes
            simp only [Rep] at hm
            exact ⟨#[],trivial,.inl ⟨hm,rfl⟩⟩
          · rename_i id
            split at hes
            · rename_i es' ho
              simp only [Option.some.injEq] at hes
              subst hes
              simp only [Rep] at hm
              obtain ⟨ms,cl,h1,hst,h2⟩:=hs.ob id _ ho
              exact ⟨ms,h2,.inr ⟨_,cl,hm.2,h1⟩⟩
            · cases hes
          · cases hes
        obtain ⟨ms,hre,hum⟩:=hent
        have start : ∀ q, Instr.findNow kd uk ms.toList 0 = some q → (Instr.lookup t um uk ok).run P w = ((match q with | some (_, x) => pure (x, true) | none => do pure (← zeroValue e, false) : Sem (Value × Bool)).run P w).andThen fun r w' => .ok (if ok then .tuple #[r.1, .bool r.2] else r.1) w' := by
          intro q hq
          rcases hum with ⟨rfl,rfl⟩ | ⟨b,cl,rfl,hb⟩
          · simp only [Instr.lookup, Sem.run_bind, run_und hu, Result.andThen, Sem.run_pure, checkKey_run hkd hkey hk, findKey_run hkd hq]
            cases q with
            | none=>simp only [Sem.run_bind,Result.andThen,Sem.run_pure]; cases (zeroValue e).run P w <;> rfl
            | some q=>rfl
          · simp only [Instr.lookup, Sem.run_bind, run_und hu, Result.andThen, getObj_map hb, Sem.run_pure, checkKey_run hkd hkey hk, findKey_run hkd hq]
            cases q with
            | none=>simp only [Sem.run_bind,Result.andThen,Sem.run_pure]; cases (zeroValue e).run P w <;> rfl
            | some q=>rfl
        split at h
        · rename_i x hlk
          simp only [Option.some.injEq] at h
          subst h
          obtain ⟨q,q1,q2⟩:=find_run hkey hk es _ 0 _ hlk hre
          cases q with
          | none=>exact q2.elim
          | some q =>
            obtain ⟨j,y⟩:=q
            refine ⟨if ok then .tuple #[y,.bool true] else y,by rw [start _ q1]; rfl,?_⟩
            cases ok
            · exact q2
            · simp only [if_true, Rep]
              exact ⟨[y,.bool true],rfl,by simp only [RepAll,Rep]; exact ⟨q2,trivial,trivial⟩⟩
        · rename_i hlk
          obtain ⟨q,q1,q2⟩:=find_run hkey hk es _ 0 _ hlk hre
          cases q with
          | some q=>exact q2.elim
          | none =>
            split at h
            · rename_i z hz
              simp only [Option.some.injEq] at h
              subst h
              obtain ⟨i,zv,_,_,h1,h2,h3⟩:=zerov_run (C:=C) (w:=w) hz
              refine ⟨if ok then .tuple #[zv,.bool false] else zv,by rw [start _ q1]; simp [h1],?_⟩
              cases ok
              · exact h2
              · simp only [if_true, Rep]
                exact ⟨[zv,.bool false],rfl,by simp only [RepAll,Rep]; exact ⟨h2,trivial,trivial⟩⟩
            · cases h
        · cases h
      · cases h
    · cases h
  · cases h

theorem put_run {kd:TypeDesc} {k v:AV} {u uv:Value} {cl:Nat} (hk:isKey kd k=true) (ho:k.one=true) (hr:Rep C w k u) (hv:Rep C w v uv):∀ (es es' : List (AV × AV)) (ms:List MapEntry) (i:Nat),putEs k v es=some es' → RepEs C w es ms →
    (Instr.findNow kd u ms i=some none∧RepEs C w es' (ms ++ [{ key:=u,val:=uv,born:=cl }])) ∨
    (∃ j x m,Instr.findNow kd u ms i=some (some (i + j,x))∧ms[j]? = some m∧Instr.sameBits 10000 m.key u=true∧RepEs C w es' (ms.modify j fun e => { e with key:=u,val:=uv }))
  | [], es', ms, i, h, hm => by
    cases ms with
    | cons _ _=>exact hm.elim
    | nil =>
      simp only [putEs,Option.some.injEq] at h
      subst h
      exact .inl ⟨rfl,⟨ho,hr⟩,hv,trivial⟩
  | (k', v') :: es, es', ms, i, h, hm => by
    cases ms with
    | nil=>exact hm.elim
    | cons m ms =>
      simp only [putEs] at h
      split at h
      · rename_i x hl
        obtain ⟨s1,s2⟩:=same_run hk hl hr hm.1.2
        obtain ⟨_,e2,e3⟩:=s2 rfl
        simp only [Option.some.injEq] at h
        subst h
        refine .inr ⟨0,m.val,m,by simp only [Instr.findNow]; rw [s1]; rfl,rfl,e3,?_⟩
        simp only [List.modify_zero_cons]
        exact ⟨⟨hm.1.1,by rw [e2]; exact hm.1.2⟩,hv,hm.2.2⟩
      · rename_i hl
        obtain ⟨s1,s2⟩:=same_run hk hl hr hm.1.2
        split at h
        · rename_i es1 h1
          simp only [Option.some.injEq] at h
          subst h
          rcases put_run hk ho hr hv es es1 ms (i + 1) h1 hm.2.2 with ⟨q1,q2⟩ | ⟨j,x,m',q1,q2,q3,q4⟩
          · exact .inl ⟨by simp only [Instr.findNow]; rw [s1]; exact q1,hm.1,hm.2.1,q2⟩
          · refine .inr ⟨j + 1, x, m', by simp only [Instr.findNow]; rw [s1]; simp only [Option.isSome_none]; rw [q1]; congr 3; omega, q2, q3, ?_⟩
            simp only [List.modify_succ_cons]
            exact ⟨hm.1,hm.2.1,q4⟩
        · cases h
      · cases h

theorem del_run {kd:TypeDesc} {k:AV} {u:Value} (hk:isKey kd k=true) (hr:Rep C w k u):∀ (es es' : List (AV × AV)) (ms:List MapEntry) (i:Nat),delEs k es=some es' → RepEs C w es ms →
    (Instr.findNow kd u ms i=some none∧RepEs C w es' ms) ∨ (∃ j x,Instr.findNow kd u ms i=some (some (i + j,x))∧RepEs C w es' (ms.eraseIdx j))
  | [], es', ms, i, h, hm => by
    cases ms with
    | cons _ _=>exact hm.elim
    | nil =>
      simp only [delEs,Option.some.injEq] at h
      subst h
      exact .inl ⟨rfl,trivial⟩
  | (k', v') :: es, es', ms, i, h, hm => by
    cases ms with
    | nil=>exact hm.elim
    | cons m ms =>
      simp only [delEs] at h
      split at h
      · rename_i x hl
        obtain ⟨s1,s2⟩:=same_run hk hl hr hm.1.2
        simp only [Option.some.injEq] at h
        subst h
        exact .inr ⟨0,m.val,by simp only [Instr.findNow]; rw [s1]; rfl,hm.2.2⟩
      · rename_i hl
        obtain ⟨s1,s2⟩:=same_run hk hl hr hm.1.2
        split at h
        · rename_i es1 h1
          simp only [Option.some.injEq] at h
          subst h
          rcases del_run hk hr es es1 ms (i + 1) h1 hm.2.2 with ⟨q1,q2⟩ | ⟨j,x,q1,q4⟩
          · exact .inl ⟨by simp only [Instr.findNow]; rw [s1]; exact q1,hm.1,hm.2.1,q2⟩
          · exact .inr ⟨j + 1,x,by simp only [Instr.findNow]; rw [s1]; simp only [Option.isSome_none]; rw [q1]; congr 3; omega,hm.1,hm.2.1,q4⟩
        · cases h
      · cases h

theorem Stamped.push {ms:List MapEntry} {cl:Nat} {k v:Value} (h:Stamped ms cl):Stamped (ms ++ [{ key:=k,val:=v,born:=cl }]) (cl + 1):=by
  refine ⟨fun e he => ?_,?_⟩
  · rcases List.mem_append.1 he with he | he
    · exact Nat.lt_succ_of_lt (h.1 e he)
    · simp only [List.mem_singleton] at he
      subst he
      exact Nat.lt_succ_self _
  · rw [List.map_append, List.nodup_append]
    refine ⟨h.2,by simp,fun a ha b hb => ?_⟩
    obtain ⟨e,he,rfl⟩:=List.mem_map.1 ha
    simp only [List.map_cons,List.map_nil,List.mem_singleton] at hb
    subst hb
    exact Nat.ne_of_lt (h.1 e he)
theorem Stamped.of_borns {ms ms' : List MapEntry} {cl:Nat} (h:Stamped ms cl) (he:ms'.map (·.born)=ms.map (·.born)):Stamped ms' cl:=by
  refine ⟨fun e hm => ?_,he ▸ h.2⟩
  have:e.born ∈ ms.map (·.born):=he ▸ List.mem_map_of_mem hm
  obtain ⟨e',h1,h2⟩:=List.mem_map.1 this
  rw [← h2]
  exact h.1 e' h1
theorem Stamped.modify {ms:Array MapEntry} {cl j:Nat} {k v:Value} (h:Stamped ms.toList cl):Stamped (ms.modify j fun e => { e with key:=k,val:=v }).toList cl:=by
  refine h.of_borns ?_
  rw [Array.toList_modify]
  apply List.ext_getElem?
  intro i
  simp only [List.getElem?_map,List.getElem?_modify]
  cases ms.toList[i]? with
  | none=>rfl
  | some e=>by_cases hij:j=i <;> simp [hij]
theorem Stamped.erase {ms:List MapEntry} {cl j:Nat} (h:Stamped ms cl):Stamped (ms.eraseIdx j) cl :=
  ⟨fun e he=>h.1 e (List.mem_of_mem_eraseIdx he),List.Nodup.sublist ((List.eraseIdx_sublist ..).map _) h.2⟩
/-- A map's object is set anew. -/
theorem did_map (hs:SOk C w) {ro id:Nat} {es es' : List (AV × AV)} {ms ms' : Array MapEntry} {cl cl' : Nat} {v:AV} {u:Value} {r:Result Value} (ho:C.σ[id]? = some (.mapo es)) (hro:ro ≤ id)
    (_hb:w.heap[C.φ id]? = some (.map ms cl)) (hr:r = .ok u { w with heap:=w.heap.setIfInBounds (C.φ id) (.map ms' cl') }) (hst:Stamped ms'.toList cl') (hes:RepEs C w es' ms'.toList)
    (hv:∀ C' w',Rep C' w' v u):Did ro C w (setOb C.σ id (.mapo es')) v r:=by
  have hlt:=hs.blk _ _ ho trivial
  obtain ⟨h1, h2⟩ := turn_one hs (w' := { w with heap := w.heap.setIfInBounds (C.φ id) (.map ms' cl') }) (b := C.φ id) (c := C.κ id) (o' := .mapo es') ho trivial hro rfl rfl rfl (by simp)
    (fun x _ hx=>by simp [Array.getElem?_setIfInBounds,Ne.symm hx]) (.inl rfl) (by simpa using hlt) ⟨⟨_,rfl⟩,rfl,rfl⟩ (fun hk=>⟨ms',cl',by simp [hlt],hst,hes.mono hk⟩)
  exact ⟨u,_,_,hr,rfl,h1,h2,hv _ _⟩

theorem isKey_one {kd:TypeDesc} {k:AV} (h:isKey kd k=true):k.one=true:=by cases k <;> simp_all [isKey,AV.one]

theorem mapUpdatev_run (hs:SOk C w) {ro:Nat} {t:TypeId} {m k v:AV} {um uk uv:Value} {σ' : List Ob} (h:mapUpdatev P t C.σ ro m k v=some σ') (hm:Rep C w m um) (hk:Rep C w k uk) (hv:Rep C w v uv) :
    Did ro C w σ' .undef (((Instr.mapUpdate t um uk uv).run P w).andThen fun _ w' => .ok undef w'):=by
  unfold mapUpdatev at h
  split at h
  · rename_i kt e id hu
    split at h
    · rename_i kd es hkd ho
      split at h
      · rename_i hc
        obtain ⟨hkey,hro⟩:=hc
        split at h
        · rename_i es' hput
          simp only [Option.some.injEq] at h
          subst h
          simp only [Rep] at hm
          obtain ⟨_,rfl⟩:=hm
          obtain ⟨ms,cl,h1,hst,h2⟩:=hs.ob id _ ho
          rcases put_run (cl:=cl) hkey (isKey_one hkey) hk hv es es' ms.toList 0 hput h2 with ⟨q1,q2⟩ | ⟨j,x,m',q1,q2,q3,q4⟩
          · refine did_map hs (u := undef) (ms' := ms.push { key := uk, val := uv, born := cl }) (cl' := cl + 1) ho hro h1 ?_ (by simpa using hst.push) (by simpa using q2) (fun _ _ => by simp only [Rep])
            simp only [Instr.mapUpdate,Sem.run_bind,run_und hu,Result.andThen,getObj_map h1,checkKey_run hkd hkey hk,findKey_run hkd q1,setObj_map h1]
          · refine did_map hs (u := undef) (ms' := ms.modify j fun e => { e with key := uk, val := uv }) (cl' := cl) ho hro h1 ?_ hst.modify (by simpa using q4) (fun _ _ => by simp only [Rep])
            rw [Nat.zero_add] at q1
            have hmj:ms[j]? = some m' := by rw [← q2]; simp
            have hstay : (Instr.keyThatStays (((ms[j]?).map (·.key)).getD uk) uk).run P w = .ok uk w := by
              rw [hmj]
              simp only [Option.map_some,Option.getD_some,Instr.keyThatStays,q3,if_true,Sem.run_pure]
            simp only [Instr.mapUpdate,Sem.run_bind,run_und hu,Result.andThen,getObj_map h1,checkKey_run hkd hkey hk,findKey_run hkd q1,hstay,setObj_map h1]
        · cases h
      · cases h
    · cases h
  · cases h

theorem deletev_run (hs:SOk C w) {ro:Nat} {t ty:TypeId} {ts:Array TypeId} {m k:AV} {um uk:Value} {σ' : List Ob} (ht:ts[0]? = some t) (h:deletev P t C.σ ro m k=some σ') (hm:Rep C w m um) (hk:Rep C w k uk) :
    Did ro C w σ' (.tup []) ((Builtin.delete_ ts ty #[um,uk]).run P w):=by
  have rep0:∀ C' w',Rep C' w' (.tup []) (.tuple #[]):=fun C' w' => by simp only [Rep]; exact ⟨[],rfl,by simp only [RepAll]⟩
  unfold deletev at h
  split at h
  · rename_i kt e hu
    split at h
    · rename_i kd hkd
      split at h
      · rename_i hkey
        simp only [Option.some.injEq] at h
        subst h
        simp only [Rep] at hm
        subst hm
        refine ⟨.tuple #[],w,C,?_,rfl,hs,Grow.refl ..,rep0 _ _⟩
        simp [Builtin.delete_,ht,run_und hu,checkKey_run hkd hkey hk]
      · cases h
    · cases h
  · rename_i kt e id hu
    split at h
    · rename_i kd es hkd ho
      split at h
      · rename_i hc
        obtain ⟨hkey,hro⟩:=hc
        split at h
        · rename_i es' hdel
          simp only [Option.some.injEq] at h
          subst h
          simp only [Rep] at hm
          obtain ⟨_,rfl⟩:=hm
          obtain ⟨ms,cl,h1,hst,h2⟩:=hs.ob id _ ho
          rcases del_run hkey hk es es' ms.toList 0 hdel h2 with ⟨q1,q2⟩ | ⟨j,x,q1,q4⟩
          · refine did_map hs (ms' := ms) (cl' := cl) ho hro h1 ?_ hst q2 rep0
            simp [Builtin.delete_,ht,run_und hu,getObj_map h1,checkKey_run hkd hkey hk,findKey_run hkd q1,setObj_map h1]
          · refine did_map hs (ms' := ms.eraseIdxIfInBounds j) (cl' := cl) ho hro h1 ?_ (by rw [Array.toList_eraseIdxIfInBounds]; exact hst.erase) (by simpa [Array.toList_eraseIdxIfInBounds] using q4) rep0
            rw [Nat.zero_add] at q1
            simp [Builtin.delete_,ht,run_und hu,getObj_map h1,checkKey_run hkd hkey hk,findKey_run hkd q1,setObj_map h1]
        · cases h
      · cases h
    · cases h
  · cases h
end Go.Vm
end
/- A value's meaning from one context to another; what is asked of calls. -/
section
namespace Go.Vm
open Go.RowKit (Below)
variable [Fixed]
variable {P:Program} {C:Ctx} {w:World}

/-- C' agrees with C on the objects below m, and lets no more blocks be written. -/
structure Agree (m:Nat) (C C' : Ctx) (w:World):Prop where
  at_:∀ id,id < m→C'.σ[id]? = C.σ[id]? ∧ C'.φ id=C.φ id∧C'.κ id=C.κ id
  may:∀ b,b < w.heap.size→Mut C' b→Mut C b

theorem RowIs.swap {m:Nat} {C C' : Ctx} {id n:Nat} {p:Nat→Nat→Prop} (h:Agree m C C' w) (hid:id < m) (hr:RowIs C id n p):RowIs C' id n p:=by
  obtain ⟨h1,h2,h3⟩:=h.at_ id hid
  unfold RowIs at hr ⊢
  rw [h1,h2,h3]
  exact hr
mutual
theorem Rep.swap {m:Nat} {C C' : Ctx} {w:World} (h:Agree m C C' w):∀ (v:AV) (u:Value),AV.lt m v=true→Rep C w v u→Rep C' w v u:=by
  intro v u hl hr
  match v with
  | .int _ _ | .bool _ | .str _ | .pnil | .mnil | .fnil | .inil | .undef | .raw _ | .ptag _=>simp only [Rep] at hr ⊢; exact hr
  | .any=>simp only [Rep]
  | .ref id off =>
    have hid:id < m:=by simpa [AV.lt] using hl
    obtain ⟨h1,h2,h3⟩:=h.at_ id hid
    simp only [Rep] at hr ⊢
    rw [h1,h2]
    exact hr
  | .map id =>
    have hid:id < m:=by simpa [AV.lt] using hl
    obtain ⟨h1,h2,h3⟩:=h.at_ id hid
    simp only [Rep] at hr ⊢
    rw [h1,h2]
    exact hr
  | .eref id n off =>
    have hid:id < m:=by simpa [AV.lt] using hl
    simp only [Rep] at hr ⊢
    exact ⟨hr.1,hr.2.swap h hid⟩
  | .own id n =>
    have hid:id < m:=by simpa [AV.lt] using hl
    simp only [Rep] at hr ⊢
    exact ⟨hr.1,hr.2.swap h hid⟩
  | .list k n sz cs =>
    simp only [Rep] at hr ⊢
    obtain ⟨h0,h1,a,cap,h2,h3,h4,h5,h6,h7⟩:=hr
    refine ⟨h0,h1,a,cap,h2,h3,h4,h5,h6,fun hn => ?_⟩
    obtain ⟨b,o,us,k1,k2,k3,k4,k5⟩:=h7 hn
    exact ⟨b,o,us,k1,k2,fun hm=>k3 (h.may b k2 hm),k4,RepAll.swap h cs us (by simpa [AV.lt] using hl) k5⟩
  | .eaddr cs =>
    simp only [Rep] at hr ⊢
    obtain ⟨h1,b,o,us,k1,k2,k3,k4,k5⟩:=hr
    exact ⟨h1,b,o,us,k1,k2,fun hm=>k3 (h.may b k2 hm),k4,RepAll.swap h cs us (by simpa [AV.lt] using hl) k5⟩
  | .clo f caps =>
    simp only [Rep] at hr ⊢
    obtain ⟨us,e,hr⟩:=hr
    exact ⟨us,e,RepAll.swap h caps us (by simpa [AV.lt] using hl) hr⟩
  | .agg cs =>
    simp only [Rep] at hr ⊢
    obtain ⟨h1,us,e,hr⟩:=hr
    exact ⟨h1,us,e,RepAll.swap h cs us (by simpa [AV.lt] using hl) hr⟩
  | .tup cs =>
    simp only [Rep] at hr ⊢
    obtain ⟨us,e,hr⟩:=hr
    exact ⟨us,e,RepAll.swap h cs us (by simpa [AV.lt] using hl) hr⟩
  | .iface t v =>
    simp only [Rep] at hr ⊢
    obtain ⟨x,e,hr⟩:=hr
    exact ⟨x,e,Rep.swap h v x (by simpa [AV.lt] using hl) hr⟩
theorem RepAll.swap {m:Nat} {C C' : Ctx} {w:World} (h:Agree m C C' w):∀ (vs:List AV) (us:List Value),AV.ltAll m vs=true→RepAll C w vs us→RepAll C' w vs us:=by
  intro vs us hl hr
  match vs,us with
  | [],[]=>simp only [RepAll]
  | v :: vs, u :: us =>
    simp only [AV.ltAll,Bool.and_eq_true] at hl
    simp only [RepAll] at hr ⊢
    exact ⟨Rep.swap h v u hl.1 hr.1,RepAll.swap h vs us hl.2 hr.2⟩
  | [],_::_=>simp only [RepAll] at hr
  | _::_,[]=>simp only [RepAll] at hr
end

/-- b is forbidden as well. -/
def Ctx.bar (C:Ctx) (b:Nat):Ctx:=⟨C.σ,C.φ,C.κ,fun x=>C.forb x ∨ x=b⟩

/-- A new row: it lies at its block's beginning, whole; nothing else in the result reads it. -/
def NewRow (C:Ctx) (w w' : World) (n sz:Nat) (cs:List AV) (u:Value) (b:Nat):Prop :=
  ∃ cap us vs e,u = .slice (some ⟨b,0,none⟩) n cap∧w.heap.size ≤ b∧n ≤ cap∧cap ≤ maxLen∧w'.heap[b]? = some (.cells (us ++ vs).toArray e (0,0))∧us.length + vs.length=cap * sz∧RepAll (C.bar b) w' cs us
def Fresh (C:Ctx) (w w' : World):AV→Value→Prop
  | .list .fresh n sz cs,u=>∃ b,NewRow C w w' n sz cs u b
  | .tup (.list .fresh n sz cs::rest),u=>∃ b u0 us,u = .tuple (u0::us).toArray∧NewRow C w w' n sz cs u0 b∧RepAll (C.bar b) w' rest us
  | _,_=>True

/-- A function with a body of its own. -/
def Bodied (P : Program) (f : FuncId) : Prop := ∃ fn, P.funcs[f]? = some fn ∧ fn.body.isSome = true ∧ ¬ fn.name = "runtime.NumGoroutine"

/-- o waits for i. -/
def edgeOn (o:Oper) (i:Nat):Bool:=o.after.toList.any fun e=>Region.binds .any e && e.on == i
/-- Each temporary is written once; who reads it waits for its writer, or is waited for. -/
def drOk (ops:Array Oper):Bool :=
  ops.toList.zipIdx.all fun x => (x.1.after.toList.all fun e => Nat.blt e.on x.2 || !Region.binds .any e) && ops.toList.zipIdx.all fun y => y.2 == x.2 || (match y.1.dst with
    | none=>true
    | some t=>x.1.dst != some t && (!(x.1.looksAt ops).contains t || (if Nat.blt y.2 x.2 then edgeOn x.1 y.2 else edgeOn y.1 x.2)))
def codeOk:Code→Bool
  | .region _ ops true=>drOk ops
  | .seq a b=>codeOk a && codeOk b
  | .cond _ a b=>codeOk a && codeOk b
  | .block _ a=>codeOk a
  | .loop a=>codeOk a
  | _=>true

/-- What a caller promises. -/
def CallOk (P:Program) (call:Caller):Prop :=
  ∀ f vs σ ro r σ', call f vs σ ro = some (r, σ') → Bodied P f ∧ ∀ (C : Ctx) (w : World) (us : List Value), C.σ = σ → SOk C w → ro ≤ σ.length → RepAll C w vs us →
    Calls P f us.toArray w fun e w' => ∃ u C',e = .returned u∧C'.σ=σ' ∧ SOk C' w' ∧ Grow ro C w C' w' ∧ Rep C' w' r u∧Fresh C' w w' r u

/-- What is promised of the functions that are not walked. -/
structure ExtOk (P:Program) (X:Ext):Prop where
  mixed:P.follows .mixedOrders=true
  dom : ∀ f fn, X.dom f = true → P.funcs[f]? = some fn → ¬ fn.name = "runtime.NumGoroutine" ∧ ∀ c, fn.body = some c → codeOk c = true
  pure : ∀ f g, X.pureFn f = some g → Bodied P f ∧ ∀ vs r, AV.ltAll 0 vs = true → g vs = some r → ∀ (C : Ctx) (w : World) (us : List Value), SOk C w → RepAll C w vs us →
    Calls P f us.toArray w fun e w' => ∃ u,e = .returned u∧w'.os=w.os∧w'.tape=w.tape∧w'.output=w.output∧w.heap.size ≤ w'.heap.size∧(∀ x,x < w.heap.size→w'.heap[x]? = w.heap[x]?)∧Rep C w' r u
  st : ∀ f g, X.stFn f = some g → Bodied P f ∧ ∀ vs σ ro r σ', g vs σ ro = some (r, σ') → ∀ (C : Ctx) (w : World) (us : List Value), C.σ = σ → SOk C w → ro ≤ σ.length → RepAll C w vs us →
    Calls P f us.toArray w fun e w' => ∃ u C',e = .returned u∧C'.σ=σ' ∧ SOk C' w' ∧ Grow ro C w C' w' ∧ Rep C' w' r u

/-- The context of a call that gets no names. -/
def Ctx.alone (C:Ctx):Ctx:=⟨[],C.φ,C.κ,Mut C⟩
theorem mut_alone {b:Nat}:Mut C.alone b ↔ Mut C b:=by
  constructor
  · rintro (h | ⟨id, o, h, _⟩)
    · exact h
    · simp [Ctx.alone] at h
  · exact fun h => .inl h
theorem alone_ok (hs:SOk C w):SOk C.alone w:=by
  refine ⟨fun id o h=>by simp [Ctx.alone] at h,fun i j oi oj h=>by simp [Ctx.alone] at h,fun id o h=>by simp [Ctx.alone] at h,fun id o h=>by simp [Ctx.alone] at h,?_,fun b X hX=>⟨(hs.fx b X hX).1,fun id o h=>by simp [Ctx.alone] at h⟩⟩
  rintro b (h | ⟨id,o,h,hl,rfl⟩)
  · exact hs.fb b h
  · exact hs.blk id o h hl
theorem agree_alone:Agree 0 C C.alone w:=⟨fun _ h=>absurd h (by omega),fun _ _ h=>mut_alone.1 h⟩

theorem unfr1_rep {C:Ctx} {w:World} {v:AV} {u:Value} (h:Rep C w v u):Rep C w (unfr1 v) u:=by
  unfold unfr1
  split
  · simp only [Rep] at h ⊢
    obtain ⟨h0,h1,a,cap,h2,h3,h4,h5,h6,h7⟩:=h
    exact ⟨h0,h1,a,cap,h2,h3,h4,by simp,by simp,h7⟩
  · exact h
theorem unfr_rep {C:Ctx} {w:World} {v:AV} {u:Value} (h:Rep C w v u):Rep C w (unfr v) u:=by
  unfold unfr
  split
  · simp only [Rep] at h ⊢
    obtain ⟨us,rfl,h⟩:=h
    cases us with
    | nil=>simp only [RepAll] at h
    | cons x us =>
      simp only [RepAll] at h
      exact ⟨_,rfl,by simp only [RepAll]; exact ⟨unfr1_rep h.1,h.2⟩⟩
  · exact unfr1_rep h

/-- After a call that got no names. -/
theorem alone_back {ro:Nat} {C' : Ctx} {w' : World} (hs:SOk C w) (hg:Grow 0 C.alone w C' w'):SOk C w' ∧ Grow ro C w C w' ∧ Agree 0 C' C w' := by
  have hblk:∀ x,x < w.heap.size→w'.heap[x]? = w.heap[x]? := fun x hx=>hg.blk x hx fun id o _ h=>by simp [Ctx.alone] at h
  obtain ⟨h1,h2,_⟩:=more_heap hs ro hg.os hg.tape hg.output hg.size hblk
  refine ⟨h1,h2,fun _ h=>absurd h (by omega),fun b _ hm => .inl ?_⟩
  rw [hg.forb]
  exact hm

/-- A new row that comes back becomes an object. -/
theorem adopt_one {ro:Nat} {C' : Ctx} {w' : World} {n sz b:Nat} {cs:List AV} {u:Value} (hro:ro ≤ C.σ.length) (hs:SOk C w) (hg:Grow 0 C.alone w C' w') (hp:AV.ltAll 0 cs=true) (hl:cs.length=n * sz) (ho:allOne cs)
    (hn:NewRow C' w w' n sz cs u b):∃ c,SOk (C.add (.arr n sz cs) b c) w' ∧ Grow ro C w (C.add (.arr n sz cs) b c) w' ∧ Rep (C.add (.arr n sz cs) b c) w' (.own C.σ.length n) u∧Agree 0 (C'.bar b) (C.add (.arr n sz cs) b c) w' := by
  obtain ⟨cap,us,vs,e,rfl,hb,hnc,hcm,hX,hlen,hr⟩:=hn
  have hblk:∀ x,x < w.heap.size→w'.heap[x]? = w.heap[x]? := fun x hx=>hg.blk x hx fun id o _ h=>by simp [Ctx.alone] at h
  have hbl:b < w'.heap.size:=(Array.getElem?_eq_some_iff.1 hX).1
  have hag : Agree 0 (C'.bar b) (C.add (.arr n sz cs) b cap) w' := by
    refine ⟨fun _ h=>absurd h (by omega),fun x _ hm => .inl ?_⟩
    show C'.forb x ∨ x=b
    rw [hg.forb]
    rcases hm with hf | ⟨id,o,h1,h2,h3⟩
    · exact .inl (.inl hf)
    · by_cases hid : id < C.σ.length
      · obtain ⟨a1, a2, _⟩ := add_get_lt (o := .arr n sz cs) (b := b) (c := cap) hid
        rw [a1] at h1
        exact .inl (.inr ⟨id,o,h1,h2,by rw [← a2]; exact h3⟩)
      · have hl := (List.getElem?_eq_some_iff.1 h1).1
        simp only [Ctx.add,List.length_append,List.length_cons,List.length_nil] at hl
        have e:id=C.σ.length:=by omega
        subst e
        simp only [Ctx.add,upd_same] at h3
        exact .inr h3.symm
  obtain ⟨k1, k2⟩ := new_one hs (ro := ro) (w' := w') (b := b) (c := cap) (o' := .arr n sz cs) hro hg.os hg.tape hg.output hg.size hblk hb hbl
    (fun _=>⟨hl,ho,hnc,hcm,us,vs,e,hX,hlen,RepAll.swap hag cs us hp hr⟩)
  refine ⟨cap,k1,k2,?_,hag⟩
  simp only [Rep]
  refine ⟨⟨_,_,rfl⟩,?_⟩
  unfold RowIs
  simp [Ctx.add,upd]

theorem adopt_rep {ro:Nat} {C' : Ctx} {w' : World} {r:AV} {u:Value} (hro:ro ≤ C.σ.length) (hs:SOk C w) (hg:Grow 0 C.alone w C' w') (hp:r.pure=true) (hr:Rep C' w' r u) (hf:Fresh C' w w' r u) :
    ∃ C2,C2.σ=(adoptv C.σ r).2∧SOk C2 w' ∧ Grow ro C w C2 w' ∧ Rep C2 w' (adoptv C.σ r).1 u:=by
  obtain ⟨s1,s2,s3⟩:=alone_back (ro:=ro) hs hg
  have plain:∀ r:AV,r.pure=true→Rep C' w' r u→∃ C2,C2.σ=C.σ∧SOk C2 w' ∧ Grow ro C w C2 w' ∧ Rep C2 w' r u:=fun r hp hr=>⟨C,rfl,s1,s2,Rep.swap s3 _ _ hp hr⟩
  unfold adoptv
  split
  · rename_i v vs
    simp only [Fresh] at hf
    unfold adopt1
    split
    · rename_i n sz cs
      simp only at hf
      obtain ⟨b,u0,us,rfl,hn,hrest⟩:=hf
      simp only [AV.pure,AV.lt,AV.ltAll,Bool.and_eq_true] at hp
      simp only [Rep] at hr
      obtain ⟨us',e',hr⟩:=hr
      have hcells : cs.length = n * sz ∧ allOne cs := by
        cases us' with
        | nil=>simp only [RepAll] at hr
        | cons x us' => simp only [RepAll,Rep] at hr; exact ⟨hr.1.1,hr.1.2.1⟩
      obtain ⟨c,k1,k2,k3,k4⟩:=adopt_one (ro:=ro) hro hs hg hp.1 hcells.1 hcells.2 hn
      refine ⟨_,rfl,k1,k2,?_⟩
      simp only [Rep]
      exact ⟨u0::us,rfl,by simp only [RepAll]; exact ⟨k3,RepAll.swap k4 _ _ hp.2 hrest⟩⟩
    · exact plain _ hp hr
  · unfold adopt1
    split
    · rename_i n sz cs
      simp only [Fresh] at hf
      obtain ⟨b,hn⟩:=hf
      simp only [AV.pure,AV.lt] at hp
      simp only [Rep] at hr
      obtain ⟨c,k1,k2,k3,_⟩:=adopt_one (ro:=ro) hro hs hg hp hr.1 hr.2.1 hn
      exact ⟨_,rfl,k1,k2,k3⟩
    · exact plain _ hp hr
end Go.Vm
end
/- What came to be in a call that got no names comes to the caller's store. -/
section
namespace Go.Vm
variable [Fixed]
variable {P:Program} {C:Ctx} {w:World}
theorem upAll_length (n:Nat):∀ (vs:List AV),(AV.upAll n vs).length=vs.length
  | []=>rfl
  | v::vs=>by simp only [AV.upAll,List.length_cons,upAll_length n vs]
theorem up_one (n:Nat) (v:AV):(AV.up n v).one=v.one:=by cases v <;> rfl
theorem upAll_one (n:Nat):∀ (vs:List AV),allOne vs→allOne (AV.upAll n vs)
  | [],_=>trivial
  | v::vs,h=>⟨by rw [up_one]; exact h.1,upAll_one n vs h.2⟩
theorem upObs_get (n:Nat):∀ (l:List Ob) (i:Nat),(upObs n l)[i]? = (l[i]?).map (Ob.up n)
  | [],i=>by simp [upObs]
  | o::l,0=>by simp [upObs]
  | o::l,i + 1=>by simp [upObs,upObs_get n l i]
theorem up_live (n:Nat) (o:Ob):(Ob.up n o).live ↔ o.live:=by cases o <;> exact Iff.rfl
/-- M holds what C' holds, n places up. -/
structure Over (C' M:Ctx) (n:Nat):Prop where
  get:∀ id,M.σ[id + n]? = (C'.σ[id]?).map (Ob.up n)
  φ:∀ id,M.φ (id + n)=C'.φ id
  κ:∀ id,M.κ (id + n)=C'.κ id
  mt:∀ b,Mut M b ↔ Mut C' b
theorem RowIs.up {C' M:Ctx} {n id m:Nat} {p:Nat→Nat→Prop} (h:Over C' M n) (hr:RowIs C' id m p):RowIs M (id + n) m p:=by
  unfold RowIs at hr ⊢
  rw [h.get,h.φ,h.κ]
  cases ho:C'.σ[id]? with
  | none=>rw [ho] at hr; exact hr.elim
  | some o =>
    rw [ho] at hr
    cases o <;> exact hr
mutual
theorem Rep.up {C' M:Ctx} {n:Nat} (h:Over C' M n):∀ (v:AV) (u:Value),Rep C' w v u→Rep M w (v.up n) u
  | .int _ _, _, k | .bool _, _, k | .str _, _, k | .pnil, _, k | .mnil, _, k | .fnil, _, k | .inil, _, k | .undef, _, k | .raw _, _, k | .ptag _, _, k => by
    simp only [AV.up,Rep] at k ⊢; exact k
  | .any,_,_=>by simp only [AV.up,Rep]
  | .ref id off, u, k => by
    simp only [AV.up,Rep] at k ⊢
    obtain ⟨⟨cs,hc⟩,rfl⟩:=k
    exact ⟨⟨AV.upAll n cs,by rw [h.get,hc]; rfl⟩,by rw [h.φ]⟩
  | .map id, u, k => by
    simp only [AV.up,Rep] at k ⊢
    obtain ⟨⟨cs,hc⟩,rfl⟩:=k
    exact ⟨⟨upEs n cs,by rw [h.get,hc]; rfl⟩,by rw [h.φ]⟩
  | .eref id m off, u, k => by
    simp only [AV.up,Rep] at k ⊢
    exact ⟨k.1,RowIs.up h k.2⟩
  | .own id m, u, k => by
    simp only [AV.up,Rep] at k ⊢
    exact ⟨k.1,RowIs.up h k.2⟩
  | .list k m sz cs, u, hk => by
    simp only [AV.up,Rep] at hk ⊢
    obtain ⟨h0,h1,a,cap,h2,h3,h4,h5,h6,h7⟩:=hk
    refine ⟨by rw [upAll_length]; exact h0,upAll_one n cs h1,a,cap,h2,h3,h4,h5,h6,fun hn => ?_⟩
    obtain ⟨b,o,us,k1,k2,k3,k4,k5⟩:=h7 hn
    exact ⟨b,o,us,k1,k2,fun hm=>k3 ((h.mt b).1 hm),k4,RepAll.up h cs us k5⟩
  | .eaddr cs, u, hk => by
    simp only [AV.up,Rep] at hk ⊢
    obtain ⟨h1,b,o,us,k1,k2,k3,k4,k5⟩:=hk
    exact ⟨upAll_one n cs h1,b,o,us,k1,k2,fun hm=>k3 ((h.mt b).1 hm),k4,RepAll.up h cs us k5⟩
  | .clo f caps, u, hk => by
    simp only [AV.up,Rep] at hk ⊢
    obtain ⟨us,e,hk⟩:=hk
    exact ⟨us,e,RepAll.up h caps us hk⟩
  | .agg cs, u, hk => by
    simp only [AV.up,Rep] at hk ⊢
    obtain ⟨h1,us,e,hk⟩:=hk
    exact ⟨upAll_one n cs h1,us,e,RepAll.up h cs us hk⟩
  | .tup cs, u, hk => by
    simp only [AV.up,Rep] at hk ⊢
    obtain ⟨us,e,hk⟩:=hk
    exact ⟨us,e,RepAll.up h cs us hk⟩
  | .iface t v, u, hk => by
    simp only [AV.up,Rep] at hk ⊢
    obtain ⟨x,e,hk⟩:=hk
    exact ⟨x,e,Rep.up h v x hk⟩
theorem RepAll.up {C' M:Ctx} {n:Nat} (h:Over C' M n):∀ (vs:List AV) (us:List Value),RepAll C' w vs us→RepAll M w (AV.upAll n vs) us
  | [],[],_=>by simp only [AV.upAll,RepAll]
  | v :: vs, u :: us, hk => by
    simp only [AV.upAll,RepAll] at hk ⊢
    exact ⟨Rep.up h v u hk.1,RepAll.up h vs us hk.2⟩
  | [],_::_,hk=>by simp only [RepAll] at hk
  | _::_,[],hk=>by simp only [RepAll] at hk
end
theorem RepEs.up {C' M:Ctx} {n:Nat} (h:Over C' M n):∀ {es:List (AV × AV)} {ms:List MapEntry},RepEs C' w es ms→RepEs M w (upEs n es) ms
  | [],[],_=>trivial
  | e::es,m::ms,hk=>⟨⟨by rw [up_one]; exact hk.1.1,Rep.up h _ _ hk.1.2⟩,Rep.up h _ _ hk.2.1,RepEs.up h hk.2.2⟩
  | [],_::_,hk=>hk.elim
  | _::_,[],hk=>hk.elim
theorem tag_up {e:TypeId} {n:Nat} {cs:List AV} (h:TagOk e cs):TagOk e (AV.upAll n cs):=by
  cases cs with
  | nil=>trivial
  | cons v vs=>cases v <;> exact h
theorem ObOk.up {C' M:Ctx} {n b c:Nat} (h:Over C' M n):∀ {o:Ob},ObOk C' w b c o→ObOk M w b c (Ob.up n o)
  | .cells cs,⟨h1,us,e,h2,h3,h4⟩=>⟨upAll_one n cs h1,us,e,h2,tag_up h3,RepAll.up h cs us h4⟩
  | .arr m sz cs,⟨h0,h1,h2,h3,us,vs,e,h4,h5,h6⟩=>⟨by rw [upAll_length]; exact h0,upAll_one n cs h1,h2,h3,us,vs,e,h4,h5,RepAll.up h cs us h6⟩
  | .fro m sz cs,⟨h0,h1,h2,h3,h4,h5,us,h6,h7⟩=>⟨by rw [upAll_length]; exact h0,upAll_one n cs h1,h2,h3,h4,fun hm=>h5 ((h.mt b).1 hm),us,h6,RepAll.up h cs us h7⟩
  | .mapo es,⟨ms,cl,h1,h2,h3⟩=>⟨ms,cl,h1,h2,RepEs.up h h3⟩
  | .gone,_=>trivial
  | .brow t l,h1=>h1
/-- The caller's objects, and behind them those of the call. -/
def Ctx.join (C C' : Ctx):Ctx:=⟨C.σ ++ upObs C.σ.length C'.σ,fun i=>if i < C.σ.length then C.φ i else C'.φ (i - C.σ.length),fun i=>if i < C.σ.length then C.κ i else C'.κ (i - C.σ.length),C.forb⟩
theorem join_low {C C' : Ctx} {i:Nat} (h:i < C.σ.length):(C.join C').σ[i]? = C.σ[i]? ∧ (C.join C').φ i=C.φ i∧(C.join C').κ i=C.κ i :=
  ⟨List.getElem?_append_left h,if_pos h,if_pos h⟩
theorem join_get {C C' : Ctx} {i:Nat} {o:Ob} (h:(C.join C').σ[i]? = some o):(i < C.σ.length∧C.σ[i]? = some o) ∨ ∃ j o',i=j + C.σ.length∧C'.σ[j]? = some o' ∧ o=Ob.up C.σ.length o' := by
  rcases Nat.lt_or_ge i C.σ.length with hi | hi
  · exact .inl ⟨hi,by rw [← (join_low (C' := C') hi).1]; exact h⟩
  · right
    have h' : (C.σ ++ upObs C.σ.length C'.σ)[i]? = some o:=h
    rw [List.getElem?_append_right hi,upObs_get] at h'
    cases hj:C'.σ[i - C.σ.length]? with
    | none=>rw [hj] at h'; cases h'
    | some o' =>
      rw [hj] at h'
      simp only [Option.map_some,Option.some.injEq] at h'
      exact ⟨i - C.σ.length,o',by omega,hj,h'.symm⟩
theorem join_high (C C' : Ctx) (i:Nat):(C.join C').φ (i + C.σ.length)=C'.φ i∧(C.join C').κ (i + C.σ.length)=C'.κ i:=by
  constructor
  · show (if i + C.σ.length < C.σ.length then _ else _) = _
    rw [if_neg (by omega),Nat.add_sub_cancel]
  · show (if i + C.σ.length < C.σ.length then _ else _) = _
    rw [if_neg (by omega),Nat.add_sub_cancel]
theorem joined {ro:Nat} {C' : Ctx} {w' : World} (hs:SOk C w) (hro:ro ≤ C.σ.length) (hg:Grow 0 C.alone w C' w') (hs' : SOk C' w') :
    SOk (C.join C') w' ∧ Grow ro C w (C.join C') w' ∧ ∀ v u,Rep C' w' v u→Rep (C.join C') w' (v.up C.σ.length) u:=by
  have hforb:C'.forb=Mut C:=hg.forb
  have hblk:∀ x,x < w.heap.size→w'.heap[x]? = w.heap[x]? := fun x hx=>hg.blk x hx fun id o _ h=>by simp [Ctx.alone] at h
  have hmut : ∀ b, Mut (C.join C') b ↔ Mut C' b := by
    intro b
    constructor
    · rintro (hf | ⟨i, o, h1, h2, h3⟩)
      · exact .inl (by rw [hforb]; exact .inl hf)
      · rcases join_get h1 with ⟨hi, h1⟩ | ⟨j, o', rfl, h1', rfl⟩
        · exact .inl (by rw [hforb]; exact .inr ⟨i,o,h1,h2,by rw [← (join_low (C' := C') hi).2.1]; exact h3⟩)
        · exact .inr ⟨j,o',h1',(up_live _ _).1 h2,by rw [← h3,(join_high C C' j).1]⟩
    · rintro (hf | ⟨j, o, h1, h2, h3⟩)
      · rw [hforb] at hf
        rcases hf with hf | ⟨i,o,h1,h2,h3⟩
        · exact .inl hf
        · have hi := (List.getElem?_eq_some_iff.1 h1).1
          exact .inr ⟨i,o,by rw [(join_low (C' := C') hi).1]; exact h1,h2,by rw [(join_low (C' := C') hi).2.1]; exact h3⟩
      · refine .inr ⟨j + C.σ.length, Ob.up C.σ.length o, ?_, (up_live _ _).2 h2, ?_⟩
        · show (C.σ ++ upObs C.σ.length C'.σ)[j + C.σ.length]? = _
          rw [List.getElem?_append_right (by omega),upObs_get,Nat.add_sub_cancel,h1]; rfl
        · rw [← h3,(join_high C C' j).1]
  have hov : Over C' (C.join C') C.σ.length := by
    refine ⟨fun id => ?_,fun id => ?_,fun id => ?_,hmut⟩
    · show (C.σ ++ upObs C.σ.length C'.σ)[id + C.σ.length]? = _
      rw [List.getElem?_append_right (by omega),upObs_get,Nat.add_sub_cancel]
    · exact (join_high C C' id).1
    · exact (join_high C C' id).2
  have hgrow : Grow ro C w (C.join C') w' := by
    refine ⟨hg.os,hg.tape,hg.output,hg.size,rfl,fun b hb _=>hblk b hb,fun b hb hm => ?_,fun id o ho => ?_,fun id hid=>join_low (by omega)⟩
    · have := hg.may b hb ((hmut b).1 hm)
      exact mut_alone.1 this
    · have hi := (List.getElem?_eq_some_iff.1 ho).1
      obtain ⟨a1,a2,a3⟩:=join_low (C' := C') hi
      exact ⟨o,by rw [a1]; exact ho,Turn.refl o ⟨a2,a3⟩⟩
  obtain ⟨sw,_,_⟩:=alone_back (ro:=ro) hs hg
  have hk:=hgrow.keeps
  refine ⟨⟨?_,?_,?_,?_,?_,?_⟩,hgrow,fun v u h=>Rep.up hov v u h⟩
  · intro i o h1 h2
    rcases join_get h1 with ⟨hi,h1⟩ | ⟨j,o',rfl,h1',rfl⟩
    · rw [(join_low hi).2.1]; exact sw.blk i o h1 h2
    · rw [hov.φ]; exact hs'.blk j o' h1' ((up_live _ _).1 h2)
  · intro i j oi oj h1 h2 k1 k2 e
    have cross : ∀ (a b : Nat) (oa ob : Ob), C.σ[a]? = some oa → oa.live → C'.σ[b]? = some ob → ob.live → C.φ a ≠ C'.φ b := by
      intro a b oa ob ha hla hb hlb e
      apply hs'.nof b ob hb hlb
      rw [hforb,← e]
      exact .inr ⟨a,oa,ha,hla,rfl⟩
    rcases join_get h1 with ⟨hi,h1⟩ | ⟨i',oi',rfl,h1',rfl⟩ <;> rcases join_get k1 with ⟨hj,k1⟩ | ⟨j',oj',rfl,k1',rfl⟩
    · rw [(join_low hi).2.1, (join_low hj).2.1] at e
      exact hs.inj i j oi oj h1 h2 k1 k2 e
    · rw [(join_low hi).2.1, hov.φ] at e
      exact absurd e (cross _ _ _ _ h1 h2 k1' ((up_live _ _).1 k2))
    · rw [(join_low hj).2.1, hov.φ] at e
      exact absurd e.symm (cross _ _ _ _ k1 k2 h1' ((up_live _ _).1 h2))
    · rw [hov.φ, hov.φ] at e
      rw [hs'.inj i' j' oi' oj' h1' ((up_live _ _).1 h2) k1' ((up_live _ _).1 k2) e]
  · intro i o h1
    rcases join_get h1 with ⟨hi,h1⟩ | ⟨j,o',rfl,h1',rfl⟩
    · rw [(join_low hi).2.1, (join_low hi).2.2]
      exact ObOk.mono hk (fun hl=>hblk _ (hs.blk i o h1 hl)) (hs.ob i o h1)
    · rw [hov.φ, hov.κ]
      exact ObOk.up hov (hs'.ob j o' h1')
  · intro i o h1 h2
    rcases join_get h1 with ⟨hi,h1⟩ | ⟨j,o',rfl,h1',rfl⟩
    · rw [(join_low hi).2.1]; exact hs.nof i o h1 h2
    · rw [hov.φ]
      intro hf
      apply hs'.nof j o' h1' ((up_live _ _).1 h2)
      rw [hforb]
      exact .inl hf
  · intro b hb
    exact Nat.lt_of_lt_of_le (hs.fb b hb) hg.size
  · intro b X hX
    refine ⟨(hs'.fx b X hX).1,fun i o h1 h2 => ?_⟩
    rcases join_get h1 with ⟨hi,h1⟩ | ⟨j,o',rfl,h1',rfl⟩
    · rw [(join_low hi).2.1]; exact (hs.fx b X hX).2 i o h1 h2
    · rw [hov.φ]; exact (hs'.fx b X hX).2 j o' h1' ((up_live _ _).1 h2)
end Go.Vm
end
