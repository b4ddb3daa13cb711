/- Part 6 of the texts of this claim: the evaluator, and what it says of the program's functions. -/
import Derived.Test.YtfjmemmjjihohaaDoorFirstE
import Derived.Test.YtfjmemmjjihohaaDoorFirstD
import Derived.Ground.NamesProg
import Derived.Shelf.Sort.Plain
import Derived.Shelf.Slices.In.SortNone
import Derived.Shelf.Slices.CompactS
import Derived.Shelf.Strings.OnBuilder
import Derived.Shelf.Strings.Split
import Derived.Shelf.Strings.Cut
import Derived.Test.YtfjmemmjjihohaaDoorProg
import Derived.Test.YtfjmemmjjihohaaDoorFirstC
import Derived.KernelRfl
set_option linter.unusedSectionVars false
set_option linter.unusedVariables false
set_option linter.unusedSimpArgs false
set_option linter.constructorNameAsVariable false
/- Signature: the parser's states. -/
section
open Go Go.Vm Go.Proofs
namespace Go.Proofs.Sig
/-- A state of which only some slots are known. -/
def kst147 (keep:List (Nat × AV)) (σ:List Ob):St:=stOf 147 ((List.range 147).filter fun i => !(keep.any fun x=>Nat.beq x.1 i)) keep σ
def kst39 (keep:List (Nat × AV)) (σ:List Ob):St:=stOf 39 ((List.range 39).filter fun i => !(keep.any fun x=>Nat.beq x.1 i)) keep σ
/-- The parser's store: three results' boxes, the map, the parser's box, rows. -/
abbrev pB (o0 o1 o2:Ob) (z:List (AV × AV)) (a0 a1 a2:AV) (n4:Int) (τ:List Ob):List Ob:=o0::o1::o2 :: .mapo z :: .cells [a0,a1,a2,.map 3,.int .i64 n4]::τ
def fgP:Nat→List Nat
  | 2002=>[1000002]
  | 2006=>[57,1000000,1000001]
  | 2009=>[57,1000000,1000001]
  | 2012=>[57,1000000,1000001]
  | 2007=>[1000000,1000001,1000002]
  | 2010=>[1000000,1000001,1000002]
  | 2013=>[1000000,1000001,1000002]
  | _=>[]
end Go.Proofs.Sig
end
/- Signature: the parser reads a line, piece by piece (printed) -/
section
open Go Go.Vm Go.Proofs
namespace Go.Proofs.Sig
theorem f39_R0_ (o0 o1 o2:Ob)(z:List (AV × AV))(a0 a1 a2:AV)(n4:Int) (τ:List Ob)(s1:ByteArray)(l0:List ByteArray)(X:Ext)(call:Caller)(lf:Nat)
 (h0:callv X call false 59 [st s1,st (ByteArray.mk #[32])] (pB o0 o1 o2 z (a0) (a1) (a2) n4 τ) 0=some (strsV l0,pB o0 o1 o2 z (a0) (a1) (a2) n4 τ)) :
    vexec Tryd.prog X call lf 0 fgP (regN Tryd.f39 0) (stOf 147 [] [(0,AV.ref 4 0),(1,st s1)] (pB o0 o1 o2 z (a0) (a1) (a2) n4 τ))=some (Ex.normal,stOf 147 [] [(0,AV.ref 4 0),(1,st s1),(4,strsV l0),(6,st s1),(7,strsV l0)] (pB o0 o1 o2 z (a0) (a1) (a2) n4 τ)) :=
  around_sound (ans:=[(2,Ans.v (strsV l0))]) (by kernel_rfl) (ai h0 trivial)
theorem f39_R2_ (o0 o1 o2:Ob)(z:List (AV × AV))(a0 a1 a2:AV)(n4:Int) (τ:List Ob)(l0 l2:List ByteArray)(X:Ext)(call:Caller)(lf:Nat)(a:ByteArray)(r14:List AV)
 (h0:keep (pB o0 o1 o2 z (a0) (a1) (a2) n4 τ) (indexAddrv Tryd.prog 22 (pB o0 o1 o2 z (a0) (a1) (a2) n4 τ) (strsV l0) (i6 0))=some (AV.eaddr (st a::r14),pB o0 o1 o2 z (a0) (a1) (a2) n4 τ))
 (h1:slc Tryd.prog 22 (pB o0 o1 o2 z (a0) (a1) (a2) n4 τ) true 0 (strsV l0) (some (i6 2)) none none=some (strsV l2,pB o0 o1 o2 z (a0) (a1) (a2) n4 τ)) :
    vexec Tryd.prog X call lf 0 fgP (popR (regN Tryd.f39 2)) (kst147 [(0,AV.ref 4 0),(4,strsV l0)] (pB o0 o1 o2 z (a0) (a1) (a2) n4 τ))=some (Ex.normal,kst147 [(0,AV.ref 4 0),(4,strsV l0),(5,AV.ref (List.length (pB o0 o1 o2 z a0 a1 a2 n4 τ)) 0),(13,strsV l0),(14,AV.eaddr (st a::r14)),(15,st a),(16,strsV l0),(17,strsV l2),(18,AV.agg [st a,strsV l2])] ((pB o0 o1 o2 z a0 a1 a2 n4 τ) ++ [Ob.cells [st emp,AV.list LK.nil 0 0 []]])) :=
  around_sound (ans:=[(2,Ans.v (AV.eaddr (st a::r14))),(5,Ans.v (strsV l2))]) (by kernel_rfl) (ai h0 (ai h1 trivial))
theorem f39_R3_ (o0 o1 o2:Ob)(z:List (AV × AV))(a0 a1 a2:AV)(n4:Int) (τ:List Ob)(l0:List ByteArray)(d0:Dcl)(X:Ext)(call:Caller)(lf:Nat) :
    vexec Tryd.prog X call lf 0 fgP (regN Tryd.f39 3) (kst147 [(0,AV.ref 4 0),(4,strsV l0),(5,AV.eaddr [st d0.kind,strsV d0.sorts])] (pB o0 o1 o2 z (a0) (a1) (a2) n4 τ))=some (Ex.normal,kst147 [(0,AV.ref 4 0),(4,strsV l0),(5,AV.eaddr [st d0.kind,strsV d0.sorts]),(19,AV.eaddr [st d0.kind,strsV d0.sorts]),(20,st d0.kind)] (pB o0 o1 o2 z (a0) (a1) (a2) n4 τ)) :=
  around_sound (ans:=[]) (by kernel_rfl) trivial
theorem f39_R5_t (o0 o1 o2:Ob)(z:List (AV × AV))(a0 a1 a2:AV)(n4:Int) (τ:List Ob)(l0:List ByteArray)(d0:Dcl)(X:Ext)(call:Caller)(lf:Nat)
 (h0:(ByteArray.toList d0.kind == ByteArray.toList (ByteArray.mk #[115,111,114,116]))=true) :
    vexec Tryd.prog X call lf 0 fgP (regN Tryd.f39 5) (kst147 [(0,AV.ref 4 0),(4,strsV l0),(5,AV.eaddr [st d0.kind,strsV d0.sorts]),(20,st d0.kind)] (pB o0 o1 o2 z (a0) (a1) (a2) n4 τ))=some (Ex.normal,kst147 [(0,AV.ref 4 0),(4,strsV l0),(5,AV.eaddr [st d0.kind,strsV d0.sorts]),(20,st d0.kind),(23,bo true),(24,bo true)] (pB o0 o1 o2 z (a0) (a1) (a2) n4 τ)) :=
  around_sound (ans:=[(1,Ans.b true)]) (by kernel_rfl) (ai h0 trivial)
theorem f39_R5_f (o0 o1 o2:Ob)(z:List (AV × AV))(a0 a1 a2:AV)(n4:Int) (τ:List Ob)(l0:List ByteArray)(d0:Dcl)(X:Ext)(call:Caller)(lf:Nat)
 (h0:(ByteArray.toList d0.kind == ByteArray.toList (ByteArray.mk #[115,111,114,116]))=false) :
    vexec Tryd.prog X call lf 0 fgP (regN Tryd.f39 5) (kst147 [(0,AV.ref 4 0),(4,strsV l0),(5,AV.eaddr [st d0.kind,strsV d0.sorts]),(20,st d0.kind)] (pB o0 o1 o2 z (a0) (a1) (a2) n4 τ))=some (Ex.normal,kst147 [(0,AV.ref 4 0),(4,strsV l0),(5,AV.eaddr [st d0.kind,strsV d0.sorts]),(20,st d0.kind),(23,bo false),(24,bo false)] (pB o0 o1 o2 z (a0) (a1) (a2) n4 τ)) :=
  around_sound (ans:=[(1,Ans.b false)]) (by kernel_rfl) (ai h0 trivial)
theorem f39_R6_ttt (o0 o1 o2:Ob)(z:List (AV × AV))(a0 a1 a2:AV)(n4:Int) (τ:List Ob)(l0:List ByteArray)(d0:Dcl)(X:Ext)(call:Caller)(lf:Nat)(n35 n41:Int)(a:ByteArray)(r51:List AV)(s54:List Ob)(b54:Bool)
 (h0:((↑l0.length:Int) == 2)=true)
 (h1:kpq [] (lenv Tryd.prog 23 [] a1) (i6 n35))
 (h2:kpq [] (lenv Tryd.prog 24 [] a2) (i6 n41))
 (h3:(IntKind.wrap IntKind.i64 (n35 + n41) == 0)=true)
 (h4:keep (pB o0 o1 o2 z (a0) (a1) (a2) n4 τ) (indexAddrv Tryd.prog 22 (pB o0 o1 o2 z (a0) (a1) (a2) n4 τ) (strsV l0) (i6 1))=some (AV.eaddr (st a::r51),pB o0 o1 o2 z (a0) (a1) (a2) n4 τ))
 (h5:callv (bareX X) call false 57 [AV.map 3,st a,AV.agg [st (ByteArray.mk #[115,111,114,116]),AV.list LK.nil 0 0 []]] (pB o0 o1 o2 z (a0) (a1) (a2) n4 τ) 0=some (bo b54,s54))
 (h6:b54=true) :
    vexec Tryd.prog X call lf 0 fgP (popR (regN Tryd.f39 6)) (kst147 [(0,AV.ref 4 0),(4,strsV l0),(5,AV.eaddr [st d0.kind,strsV d0.sorts]),(20,st d0.kind)] (pB o0 o1 o2 z (a0) (a1) (a2) n4 τ))=some (Ex.normal,kst147 [(0,AV.ref 4 0),(4,strsV l0),(5,AV.eaddr [st d0.kind,strsV d0.sorts]),(20,st d0.kind),(25,AV.ref 4 0),(26,strsV l0),(27,i6 (↑l0.length:Int)),(28,bo true),(29,bo true),(30,AV.ref 4 0),(31,AV.ref 4 0),(32,AV.ref 4 0),(33,AV.ref 4 1),(34,a1),(35,i6 n35),(36,AV.ref 4 0),(37,AV.ref 4 0),(38,AV.ref 4 0),(39,AV.ref 4 2),(40,a2),(41,i6 n41),(42,i6 (IntKind.wrap IntKind.i64 (n35 + n41))),(43,bo true),(44,bo true),(45,bo true),(46,AV.ref 4 0),(47,AV.ref 4 0),(48,AV.ref 4 3),(49,AV.map 3),(50,strsV l0),(51,AV.eaddr (st a::r51)),(52,st a),(53,AV.agg [st (ByteArray.mk #[115,111,114,116]),AV.list LK.nil 0 0 []]),(54,bo b54),(55,bo true)] s54) :=
  around_sound (ans:=[(4,Ans.b true),(17,Ans.v (i6 n35)),(29,Ans.v (i6 n41)),(33,Ans.b true),(47,Ans.v (AV.eaddr (st a::r51))),(53,Ans.c (bo b54) s54),(54,Ans.b true)]) (by kernel_rfl) (ai h0 (ai h1 (ai h2 (ai h3 (ai h4 (ai h5 (ai h6 trivial)))))))
theorem f39_R6_ttf (o0 o1 o2:Ob)(z:List (AV × AV))(a0 a1 a2:AV)(n4:Int) (τ:List Ob)(l0:List ByteArray)(d0:Dcl)(X:Ext)(call:Caller)(lf:Nat)(n35 n41:Int)(a:ByteArray)(r51:List AV)(s54:List Ob)(b54:Bool)
 (h0:((↑l0.length:Int) == 2)=true)
 (h1:kpq [] (lenv Tryd.prog 23 [] a1) (i6 n35))
 (h2:kpq [] (lenv Tryd.prog 24 [] a2) (i6 n41))
 (h3:(IntKind.wrap IntKind.i64 (n35 + n41) == 0)=true)
 (h4:keep (pB o0 o1 o2 z (a0) (a1) (a2) n4 τ) (indexAddrv Tryd.prog 22 (pB o0 o1 o2 z (a0) (a1) (a2) n4 τ) (strsV l0) (i6 1))=some (AV.eaddr (st a::r51),pB o0 o1 o2 z (a0) (a1) (a2) n4 τ))
 (h5:callv (bareX X) call false 57 [AV.map 3,st a,AV.agg [st (ByteArray.mk #[115,111,114,116]),AV.list LK.nil 0 0 []]] (pB o0 o1 o2 z (a0) (a1) (a2) n4 τ) 0=some (bo b54,s54))
 (h6:b54=false) :
    vexec Tryd.prog X call lf 0 fgP (popR (regN Tryd.f39 6)) (kst147 [(0,AV.ref 4 0),(4,strsV l0),(5,AV.eaddr [st d0.kind,strsV d0.sorts]),(20,st d0.kind)] (pB o0 o1 o2 z (a0) (a1) (a2) n4 τ))=some (Ex.normal,kst147 [(0,AV.ref 4 0),(4,strsV l0),(5,AV.eaddr [st d0.kind,strsV d0.sorts]),(20,st d0.kind),(25,AV.ref 4 0),(26,strsV l0),(27,i6 (↑l0.length:Int)),(28,bo true),(29,bo true),(30,AV.ref 4 0),(31,AV.ref 4 0),(32,AV.ref 4 0),(33,AV.ref 4 1),(34,a1),(35,i6 n35),(36,AV.ref 4 0),(37,AV.ref 4 0),(38,AV.ref 4 0),(39,AV.ref 4 2),(40,a2),(41,i6 n41),(42,i6 (IntKind.wrap IntKind.i64 (n35 + n41))),(43,bo true),(44,bo true),(45,bo true),(46,AV.ref 4 0),(47,AV.ref 4 0),(48,AV.ref 4 3),(49,AV.map 3),(50,strsV l0),(51,AV.eaddr (st a::r51)),(52,st a),(53,AV.agg [st (ByteArray.mk #[115,111,114,116]),AV.list LK.nil 0 0 []]),(54,bo b54),(55,bo false)] s54) :=
  around_sound (ans:=[(4,Ans.b true),(17,Ans.v (i6 n35)),(29,Ans.v (i6 n41)),(33,Ans.b true),(47,Ans.v (AV.eaddr (st a::r51))),(53,Ans.c (bo b54) s54),(54,Ans.b false)]) (by kernel_rfl) (ai h0 (ai h1 (ai h2 (ai h3 (ai h4 (ai h5 (ai h6 trivial)))))))
theorem f39_R6_tf (o0 o1 o2:Ob)(z:List (AV × AV))(a0 a1 a2:AV)(n4:Int) (τ:List Ob)(l0:List ByteArray)(d0:Dcl)(X:Ext)(call:Caller)(lf:Nat)(n35 n41:Int)
 (h0:((↑l0.length:Int) == 2)=true)
 (h1:kpq [] (lenv Tryd.prog 23 [] a1) (i6 n35))
 (h2:kpq [] (lenv Tryd.prog 24 [] a2) (i6 n41))
 (h3:(IntKind.wrap IntKind.i64 (n35 + n41) == 0)=false) :
    vexec Tryd.prog X call lf 0 fgP (popR (regN Tryd.f39 6)) (kst147 [(0,AV.ref 4 0),(4,strsV l0),(5,AV.eaddr [st d0.kind,strsV d0.sorts]),(20,st d0.kind)] (pB o0 o1 o2 z (a0) (a1) (a2) n4 τ))=some (Ex.normal,kst147 [(0,AV.ref 4 0),(4,strsV l0),(5,AV.eaddr [st d0.kind,strsV d0.sorts]),(20,st d0.kind),(25,AV.ref 4 0),(26,strsV l0),(27,i6 (↑l0.length:Int)),(28,bo true),(29,bo true),(30,AV.ref 4 0),(31,AV.ref 4 0),(32,AV.ref 4 0),(33,AV.ref 4 1),(34,a1),(35,i6 n35),(36,AV.ref 4 0),(37,AV.ref 4 0),(38,AV.ref 4 0),(39,AV.ref 4 2),(40,a2),(41,i6 n41),(42,i6 (IntKind.wrap IntKind.i64 (n35 + n41))),(43,bo false),(44,bo false),(45,bo false),(55,bo false),(46,AV.undef),(47,AV.undef),(48,AV.undef),(49,AV.undef),(50,AV.undef),(51,AV.undef),(52,AV.undef),(53,AV.undef),(54,AV.undef)] (pB o0 o1 o2 z (a0) (a1) (a2) n4 τ)) :=
  around_sound (ans:=[(4,Ans.b true),(17,Ans.v (i6 n35)),(29,Ans.v (i6 n41)),(33,Ans.b false)]) (by kernel_rfl) (ai h0 (ai h1 (ai h2 (ai h3 trivial))))
theorem f39_R6_f (o0 o1 o2:Ob)(z:List (AV × AV))(a0 a1 a2:AV)(n4:Int) (τ:List Ob)(l0:List ByteArray)(d0:Dcl)(X:Ext)(call:Caller)(lf:Nat)
 (h0:((↑l0.length:Int) == 2)=false) :
    vexec Tryd.prog X call lf 0 fgP (popR (regN Tryd.f39 6)) (kst147 [(0,AV.ref 4 0),(4,strsV l0),(5,AV.eaddr [st d0.kind,strsV d0.sorts]),(20,st d0.kind)] (pB o0 o1 o2 z (a0) (a1) (a2) n4 τ))=some (Ex.normal,kst147 [(0,AV.ref 4 0),(4,strsV l0),(5,AV.eaddr [st d0.kind,strsV d0.sorts]),(20,st d0.kind),(25,AV.ref 4 0),(26,strsV l0),(27,i6 (↑l0.length:Int)),(28,bo false),(29,bo false),(44,bo false),(45,bo false),(55,bo false),(30,AV.undef),(31,AV.undef),(32,AV.undef),(33,AV.undef),(34,AV.undef),(35,AV.undef),(36,AV.undef),(37,AV.undef),(38,AV.undef),(39,AV.undef),(40,AV.undef),(41,AV.undef),(42,AV.undef),(43,AV.undef),(46,AV.undef),(47,AV.undef),(48,AV.undef),(49,AV.undef),(50,AV.undef),(51,AV.undef),(52,AV.undef),(53,AV.undef),(54,AV.undef)] (pB o0 o1 o2 z (a0) (a1) (a2) n4 τ)) :=
  around_sound (ans:=[(4,Ans.b false)]) (by kernel_rfl) (ai h0 trivial)
theorem f39_R7_ (o0 o1 o2:Ob)(z:List (AV × AV))(a0 a1 a2:AV)(n4:Int) (τ:List Ob)(l0:List ByteArray)(d0:Dcl)(i67 n67:Nat) (τ2:List Ob)(X:Ext)(call:Caller)(lf:Nat)(a:ByteArray)(r64:List AV)
 (h0:keep (pB o0 o1 o2 z (a0) (a1) (a2) n4 τ) (indexAddrv Tryd.prog 22 (pB o0 o1 o2 z (a0) (a1) (a2) n4 τ) (strsV l0) (i6 1))=some (AV.eaddr (st a::r64),pB o0 o1 o2 z (a0) (a1) (a2) n4 τ))
 (h1:appendv Tryd.prog 22 (pB o0 o1 o2 z (a0) (a1) (a2) n4 τ) 0 a0 (AV.list LK.clip 1 1 [st a])=some (AV.own i67 n67,pB o0 o1 o2 z (a0) (a1) (a2) n4 τ2)) :
    vexec Tryd.prog X call lf 0 fgP (regN Tryd.f39 7) (kst147 [(0,AV.ref 4 0),(4,strsV l0),(5,AV.eaddr [st d0.kind,strsV d0.sorts]),(20,st d0.kind)] (pB o0 o1 o2 z (a0) (a1) (a2) n4 τ))=some (Ex.normal,kst147 [(0,AV.ref 4 0),(4,strsV l0),(5,AV.eaddr [st d0.kind,strsV d0.sorts]),(20,st d0.kind),(57,AV.ref 4 0),(58,AV.ref 4 0),(59,AV.ref 4 0),(60,AV.ref 4 0),(61,AV.ref 4 0),(62,a0),(63,strsV l0),(64,AV.eaddr (st a::r64)),(65,st a),(66,AV.list LK.clip 1 1 [st a]),(67,AV.own i67 n67),(68,AV.ref 4 0),(69,AV.ref 4 0),(70,AV.ref 4 0)] (o0::o1::o2::Ob.mapo z::Ob.cells [AV.own i67 n67,a1,a2,AV.map 3,i6 n4]::τ2)) :=
  around_sound (ans:=[(8,Ans.v (AV.eaddr (st a::r64))),(11,Ans.c (AV.own i67 n67) (pB o0 o1 o2 z (a0) (a1) (a2) n4 τ2))]) (by kernel_rfl) (ai h0 (ai h1 trivial))
theorem f39_R8_t (o0 o1 o2:Ob)(z:List (AV × AV))(a0 a1 a2:AV)(n4:Int) (τ:List Ob)(l0:List ByteArray)(d0:Dcl)(X:Ext)(call:Caller)(lf:Nat)
 (h0:(ByteArray.toList d0.kind == ByteArray.toList (ByteArray.mk #[99,111,110,115,116,97,110,116]))=true) :
    vexec Tryd.prog X call lf 0 fgP (regN Tryd.f39 8) (kst147 [(0,AV.ref 4 0),(4,strsV l0),(5,AV.eaddr [st d0.kind,strsV d0.sorts]),(20,st d0.kind)] (pB o0 o1 o2 z (a0) (a1) (a2) n4 τ))=some (Ex.normal,kst147 [(0,AV.ref 4 0),(4,strsV l0),(5,AV.eaddr [st d0.kind,strsV d0.sorts]),(20,st d0.kind),(71,bo true),(72,bo true)] (pB o0 o1 o2 z (a0) (a1) (a2) n4 τ)) :=
  around_sound (ans:=[(1,Ans.b true)]) (by kernel_rfl) (ai h0 trivial)
theorem f39_R8_f (o0 o1 o2:Ob)(z:List (AV × AV))(a0 a1 a2:AV)(n4:Int) (τ:List Ob)(l0:List ByteArray)(d0:Dcl)(X:Ext)(call:Caller)(lf:Nat)
 (h0:(ByteArray.toList d0.kind == ByteArray.toList (ByteArray.mk #[99,111,110,115,116,97,110,116]))=false) :
    vexec Tryd.prog X call lf 0 fgP (regN Tryd.f39 8) (kst147 [(0,AV.ref 4 0),(4,strsV l0),(5,AV.eaddr [st d0.kind,strsV d0.sorts]),(20,st d0.kind)] (pB o0 o1 o2 z (a0) (a1) (a2) n4 τ))=some (Ex.normal,kst147 [(0,AV.ref 4 0),(4,strsV l0),(5,AV.eaddr [st d0.kind,strsV d0.sorts]),(20,st d0.kind),(71,bo false),(72,bo false)] (pB o0 o1 o2 z (a0) (a1) (a2) n4 τ)) :=
  around_sound (ans:=[(1,Ans.b false)]) (by kernel_rfl) (ai h0 trivial)
theorem f39_R9_ttt (o0 o1 o2:Ob)(z:List (AV × AV))(a0 a1 a2:AV)(n4:Int) (τ:List Ob)(l0:List ByteArray)(d0:Dcl)(X:Ext)(call:Caller)(lf:Nat)(n83:Int)(a:ByteArray)(r92:List AV)(s95:List Ob)(b95:Bool)
 (h0:((↑l0.length:Int) == 3)=true)
 (h1:kpq [] (lenv Tryd.prog 24 [] a2) (i6 n83))
 (h2:(n83 == 0)=true)
 (h3:keep (pB o0 o1 o2 z (a0) (a1) (a2) n4 τ) (indexAddrv Tryd.prog 22 (pB o0 o1 o2 z (a0) (a1) (a2) n4 τ) (strsV l0) (i6 1))=some (AV.eaddr (st a::r92),pB o0 o1 o2 z (a0) (a1) (a2) n4 τ))
 (h4:callv (bareX X) call false 57 [AV.map 3,st a,AV.agg [st d0.kind,strsV d0.sorts]] (pB o0 o1 o2 z (a0) (a1) (a2) n4 τ) 0=some (bo b95,s95))
 (h5:b95=true) :
    vexec Tryd.prog X call lf 0 fgP (popR (regN Tryd.f39 9)) (kst147 [(0,AV.ref 4 0),(4,strsV l0),(5,AV.eaddr [st d0.kind,strsV d0.sorts]),(20,st d0.kind)] (pB o0 o1 o2 z (a0) (a1) (a2) n4 τ))=some (Ex.normal,kst147 [(0,AV.ref 4 0),(4,strsV l0),(5,AV.eaddr [st d0.kind,strsV d0.sorts]),(20,st d0.kind),(73,AV.ref 4 0),(74,strsV l0),(75,i6 (↑l0.length:Int)),(76,bo true),(77,bo true),(78,AV.ref 4 0),(79,AV.ref 4 0),(80,AV.ref 4 0),(81,AV.ref 4 2),(82,a2),(83,i6 n83),(84,bo true),(85,bo true),(86,bo true),(87,AV.ref 4 0),(88,AV.ref 4 0),(89,AV.ref 4 3),(90,AV.map 3),(91,strsV l0),(92,AV.eaddr (st a::r92)),(93,st a),(94,AV.agg [st d0.kind,strsV d0.sorts]),(95,bo b95),(96,bo true)] s95) :=
  around_sound (ans:=[(4,Ans.b true),(17,Ans.v (i6 n83)),(19,Ans.b true),(33,Ans.v (AV.eaddr (st a::r92))),(39,Ans.c (bo b95) s95),(40,Ans.b true)]) (by kernel_rfl) (ai h0 (ai h1 (ai h2 (ai h3 (ai h4 (ai h5 trivial))))))
theorem f39_R9_ttf (o0 o1 o2:Ob)(z:List (AV × AV))(a0 a1 a2:AV)(n4:Int) (τ:List Ob)(l0:List ByteArray)(d0:Dcl)(X:Ext)(call:Caller)(lf:Nat)(n83:Int)(a:ByteArray)(r92:List AV)(s95:List Ob)(b95:Bool)
 (h0:((↑l0.length:Int) == 3)=true)
 (h1:kpq [] (lenv Tryd.prog 24 [] a2) (i6 n83))
 (h2:(n83 == 0)=true)
 (h3:keep (pB o0 o1 o2 z (a0) (a1) (a2) n4 τ) (indexAddrv Tryd.prog 22 (pB o0 o1 o2 z (a0) (a1) (a2) n4 τ) (strsV l0) (i6 1))=some (AV.eaddr (st a::r92),pB o0 o1 o2 z (a0) (a1) (a2) n4 τ))
 (h4:callv (bareX X) call false 57 [AV.map 3,st a,AV.agg [st d0.kind,strsV d0.sorts]] (pB o0 o1 o2 z (a0) (a1) (a2) n4 τ) 0=some (bo b95,s95))
 (h5:b95=false) :
    vexec Tryd.prog X call lf 0 fgP (popR (regN Tryd.f39 9)) (kst147 [(0,AV.ref 4 0),(4,strsV l0),(5,AV.eaddr [st d0.kind,strsV d0.sorts]),(20,st d0.kind)] (pB o0 o1 o2 z (a0) (a1) (a2) n4 τ))=some (Ex.normal,kst147 [(0,AV.ref 4 0),(4,strsV l0),(5,AV.eaddr [st d0.kind,strsV d0.sorts]),(20,st d0.kind),(73,AV.ref 4 0),(74,strsV l0),(75,i6 (↑l0.length:Int)),(76,bo true),(77,bo true),(78,AV.ref 4 0),(79,AV.ref 4 0),(80,AV.ref 4 0),(81,AV.ref 4 2),(82,a2),(83,i6 n83),(84,bo true),(85,bo true),(86,bo true),(87,AV.ref 4 0),(88,AV.ref 4 0),(89,AV.ref 4 3),(90,AV.map 3),(91,strsV l0),(92,AV.eaddr (st a::r92)),(93,st a),(94,AV.agg [st d0.kind,strsV d0.sorts]),(95,bo b95),(96,bo false)] s95) :=
  around_sound (ans:=[(4,Ans.b true),(17,Ans.v (i6 n83)),(19,Ans.b true),(33,Ans.v (AV.eaddr (st a::r92))),(39,Ans.c (bo b95) s95),(40,Ans.b false)]) (by kernel_rfl) (ai h0 (ai h1 (ai h2 (ai h3 (ai h4 (ai h5 trivial))))))
theorem f39_R9_tf (o0 o1 o2:Ob)(z:List (AV × AV))(a0 a1 a2:AV)(n4:Int) (τ:List Ob)(l0:List ByteArray)(d0:Dcl)(X:Ext)(call:Caller)(lf:Nat)(n83:Int)
 (h0:((↑l0.length:Int) == 3)=true)
 (h1:kpq [] (lenv Tryd.prog 24 [] a2) (i6 n83))
 (h2:(n83 == 0)=false) :
    vexec Tryd.prog X call lf 0 fgP (popR (regN Tryd.f39 9)) (kst147 [(0,AV.ref 4 0),(4,strsV l0),(5,AV.eaddr [st d0.kind,strsV d0.sorts]),(20,st d0.kind)] (pB o0 o1 o2 z (a0) (a1) (a2) n4 τ))=some (Ex.normal,kst147 [(0,AV.ref 4 0),(4,strsV l0),(5,AV.eaddr [st d0.kind,strsV d0.sorts]),(20,st d0.kind),(73,AV.ref 4 0),(74,strsV l0),(75,i6 (↑l0.length:Int)),(76,bo true),(77,bo true),(78,AV.ref 4 0),(79,AV.ref 4 0),(80,AV.ref 4 0),(81,AV.ref 4 2),(82,a2),(83,i6 n83),(84,bo false),(85,bo false),(86,bo false),(96,bo false),(87,AV.undef),(88,AV.undef),(89,AV.undef),(90,AV.undef),(91,AV.undef),(92,AV.undef),(93,AV.undef),(94,AV.undef),(95,AV.undef)] (pB o0 o1 o2 z (a0) (a1) (a2) n4 τ)) :=
  around_sound (ans:=[(4,Ans.b true),(17,Ans.v (i6 n83)),(19,Ans.b false)]) (by kernel_rfl) (ai h0 (ai h1 (ai h2 trivial)))
theorem f39_R9_f (o0 o1 o2:Ob)(z:List (AV × AV))(a0 a1 a2:AV)(n4:Int) (τ:List Ob)(l0:List ByteArray)(d0:Dcl)(X:Ext)(call:Caller)(lf:Nat)
 (h0:((↑l0.length:Int) == 3)=false) :
    vexec Tryd.prog X call lf 0 fgP (popR (regN Tryd.f39 9)) (kst147 [(0,AV.ref 4 0),(4,strsV l0),(5,AV.eaddr [st d0.kind,strsV d0.sorts]),(20,st d0.kind)] (pB o0 o1 o2 z (a0) (a1) (a2) n4 τ))=some (Ex.normal,kst147 [(0,AV.ref 4 0),(4,strsV l0),(5,AV.eaddr [st d0.kind,strsV d0.sorts]),(20,st d0.kind),(73,AV.ref 4 0),(74,strsV l0),(75,i6 (↑l0.length:Int)),(76,bo false),(77,bo false),(85,bo false),(86,bo false),(96,bo false),(78,AV.undef),(79,AV.undef),(80,AV.undef),(81,AV.undef),(82,AV.undef),(83,AV.undef),(84,AV.undef),(87,AV.undef),(88,AV.undef),(89,AV.undef),(90,AV.undef),(91,AV.undef),(92,AV.undef),(93,AV.undef),(94,AV.undef),(95,AV.undef)] (pB o0 o1 o2 z (a0) (a1) (a2) n4 τ)) :=
  around_sound (ans:=[(4,Ans.b false)]) (by kernel_rfl) (ai h0 trivial)
theorem f39_R10_ (o0 o1 o2:Ob)(z:List (AV × AV))(a0 a1 a2:AV)(n4:Int) (τ:List Ob)(l0:List ByteArray)(d0:Dcl)(i112 n112:Nat) (τ2:List Ob)(X:Ext)(call:Caller)(lf:Nat)(a:ByteArray)(r105:List AV)(b:ByteArray)(r108:List AV)
 (h0:keep (pB o0 o1 o2 z (a0) (a1) (a2) n4 τ) (indexAddrv Tryd.prog 22 (pB o0 o1 o2 z (a0) (a1) (a2) n4 τ) (strsV l0) (i6 1))=some (AV.eaddr (st a::r105),pB o0 o1 o2 z (a0) (a1) (a2) n4 τ))
 (h1:keep (pB o0 o1 o2 z (a0) (a1) (a2) n4 τ) (indexAddrv Tryd.prog 22 (pB o0 o1 o2 z (a0) (a1) (a2) n4 τ) (strsV l0) (i6 2))=some (AV.eaddr (st b::r108),pB o0 o1 o2 z (a0) (a1) (a2) n4 τ))
 (h2:appendv Tryd.prog 23 (pB o0 o1 o2 z (a0) (a1) (a2) n4 τ) 0 a1 (AV.list LK.clip 1 2 [st a,st b])=some (AV.own i112 n112,pB o0 o1 o2 z (a0) (a1) (a2) n4 τ2)) :
    vexec Tryd.prog X call lf 0 fgP (regN Tryd.f39 10) (kst147 [(0,AV.ref 4 0),(4,strsV l0),(5,AV.eaddr [st d0.kind,strsV d0.sorts]),(20,st d0.kind)] (pB o0 o1 o2 z (a0) (a1) (a2) n4 τ))=some (Ex.normal,kst147 [(0,AV.ref 4 0),(4,strsV l0),(5,AV.eaddr [st d0.kind,strsV d0.sorts]),(20,st d0.kind),(98,AV.ref 4 0),(99,AV.ref 4 0),(100,AV.ref 4 0),(101,AV.ref 4 0),(102,AV.ref 4 1),(103,a1),(104,strsV l0),(105,AV.eaddr (st a::r105)),(106,st a),(107,strsV l0),(108,AV.eaddr (st b::r108)),(109,st b),(110,AV.agg [st a,st b]),(111,AV.list LK.clip 1 2 [st a,st b]),(112,AV.own i112 n112),(113,AV.ref 4 0),(114,AV.ref 4 0),(115,AV.ref 4 1)] (o0::o1::o2::Ob.mapo z::Ob.cells [a0,AV.own i112 n112,a2,AV.map 3,i6 n4]::τ2)) :=
  around_sound (ans:=[(8,Ans.v (AV.eaddr (st a::r105))),(11,Ans.v (AV.eaddr (st b::r108))),(15,Ans.c (AV.own i112 n112) (pB o0 o1 o2 z (a0) (a1) (a2) n4 τ2))]) (by kernel_rfl) (ai h0 (ai h1 (ai h2 trivial)))
theorem f39_R11_t (o0 o1 o2:Ob)(z:List (AV × AV))(a0 a1 a2:AV)(n4:Int) (τ:List Ob)(l0:List ByteArray)(d0:Dcl)(X:Ext)(call:Caller)(lf:Nat)
 (h0:(ByteArray.toList d0.kind == ByteArray.toList (ByteArray.mk #[112,114,101,100,105,99,97,116,101]))=true) :
    vexec Tryd.prog X call lf 0 fgP (regN Tryd.f39 11) (kst147 [(0,AV.ref 4 0),(4,strsV l0),(5,AV.eaddr [st d0.kind,strsV d0.sorts]),(20,st d0.kind)] (pB o0 o1 o2 z (a0) (a1) (a2) n4 τ))=some (Ex.normal,kst147 [(0,AV.ref 4 0),(4,strsV l0),(5,AV.eaddr [st d0.kind,strsV d0.sorts]),(20,st d0.kind),(116,bo true),(117,bo true)] (pB o0 o1 o2 z (a0) (a1) (a2) n4 τ)) :=
  around_sound (ans:=[(1,Ans.b true)]) (by kernel_rfl) (ai h0 trivial)
theorem f39_R11_f (o0 o1 o2:Ob)(z:List (AV × AV))(a0 a1 a2:AV)(n4:Int) (τ:List Ob)(l0:List ByteArray)(d0:Dcl)(X:Ext)(call:Caller)(lf:Nat)
 (h0:(ByteArray.toList d0.kind == ByteArray.toList (ByteArray.mk #[112,114,101,100,105,99,97,116,101]))=false) :
    vexec Tryd.prog X call lf 0 fgP (regN Tryd.f39 11) (kst147 [(0,AV.ref 4 0),(4,strsV l0),(5,AV.eaddr [st d0.kind,strsV d0.sorts]),(20,st d0.kind)] (pB o0 o1 o2 z (a0) (a1) (a2) n4 τ))=some (Ex.normal,kst147 [(0,AV.ref 4 0),(4,strsV l0),(5,AV.eaddr [st d0.kind,strsV d0.sorts]),(20,st d0.kind),(116,bo false),(117,bo false)] (pB o0 o1 o2 z (a0) (a1) (a2) n4 τ)) :=
  around_sound (ans:=[(1,Ans.b false)]) (by kernel_rfl) (ai h0 trivial)
theorem f39_R12_ (o0 o1 o2:Ob)(z:List (AV × AV))(a0 a1 a2:AV)(n4:Int) (τ:List Ob)(l0:List ByteArray)(d0:Dcl)(X:Ext)(call:Caller)(lf:Nat)(a:ByteArray)(r124:List AV)(s127:List Ob)(b127:Bool)
 (h0:keep (pB o0 o1 o2 z (a0) (a1) (a2) n4 τ) (indexAddrv Tryd.prog 22 (pB o0 o1 o2 z (a0) (a1) (a2) n4 τ) (strsV l0) (i6 1))=some (AV.eaddr (st a::r124),pB o0 o1 o2 z (a0) (a1) (a2) n4 τ))
 (h1:callv (bareX X) call false 57 [AV.map 3,st a,AV.agg [st d0.kind,strsV d0.sorts]] (pB o0 o1 o2 z (a0) (a1) (a2) n4 τ) 0=some (bo b127,s127)) :
    vexec Tryd.prog X call lf 0 fgP (popR (regN Tryd.f39 12)) (kst147 [(0,AV.ref 4 0),(4,strsV l0),(5,AV.eaddr [st d0.kind,strsV d0.sorts]),(20,st d0.kind)] (pB o0 o1 o2 z (a0) (a1) (a2) n4 τ))=some (Ex.normal,kst147 [(0,AV.ref 4 0),(4,strsV l0),(5,AV.eaddr [st d0.kind,strsV d0.sorts]),(20,st d0.kind),(118,AV.ref 4 0),(119,AV.ref 4 0),(120,AV.ref 4 0),(121,AV.ref 4 3),(122,AV.map 3),(123,strsV l0),(124,AV.eaddr (st a::r124)),(125,st a),(126,AV.agg [st d0.kind,strsV d0.sorts]),(127,bo b127)] s127) :=
  around_sound (ans:=[(7,Ans.v (AV.eaddr (st a::r124))),(10,Ans.c (bo b127) s127)]) (by kernel_rfl) (ai h0 (ai h1 trivial))
theorem f39_R13_ (o0 o1 o2:Ob)(z:List (AV × AV))(a0 a1 a2:AV)(n4:Int) (τ:List Ob)(l0:List ByteArray)(d0:Dcl)(i143 n143:Nat) (τ2:List Ob)(X:Ext)(call:Caller)(lf:Nat)(a:ByteArray)(r136:List AV)(m142:Nat)(c142:List AV)(k142:LK)
 (h0:keep (pB o0 o1 o2 z (a0) (a1) (a2) n4 τ) (indexAddrv Tryd.prog 22 (pB o0 o1 o2 z (a0) (a1) (a2) n4 τ) (strsV l0) (i6 1))=some (AV.eaddr (st a::r136),pB o0 o1 o2 z (a0) (a1) (a2) n4 τ))
 (h1:cvq X (call0 call) true 48 [strsV d0.sorts] [] (strsV d0.sorts))
 (h2:bsl Tryd.prog 24 1 [] true 0 [(0,AV.agg [st a,strsV d0.sorts])]=some (AV.list k142 m142 2 c142,[]))
 (h3:appendv Tryd.prog 24 (pB o0 o1 o2 z (a0) (a1) (a2) n4 τ) 0 a2 (AV.list k142 m142 2 c142)=some (AV.own i143 n143,pB o0 o1 o2 z (a0) (a1) (a2) n4 τ2)) :
    vexec Tryd.prog X call lf 0 fgP (regN Tryd.f39 13) (kst147 [(0,AV.ref 4 0),(4,strsV l0),(5,AV.eaddr [st d0.kind,strsV d0.sorts]),(20,st d0.kind)] (pB o0 o1 o2 z (a0) (a1) (a2) n4 τ))=some (Ex.normal,kst147 [(0,AV.ref 4 0),(4,strsV l0),(5,AV.eaddr [st d0.kind,strsV d0.sorts]),(20,st d0.kind),(129,AV.ref 4 0),(130,AV.ref 4 0),(131,AV.ref 4 0),(132,AV.ref 4 0),(133,AV.ref 4 2),(134,a2),(135,strsV l0),(136,AV.eaddr (st a::r136)),(137,st a),(138,AV.eaddr [strsV d0.sorts]),(139,strsV d0.sorts),(140,strsV d0.sorts),(141,AV.agg [st a,strsV d0.sorts]),(142,AV.list k142 m142 2 c142),(143,AV.own i143 n143),(144,AV.ref 4 0),(145,AV.ref 4 0),(146,AV.ref 4 2)] (o0::o1::o2::Ob.mapo z::Ob.cells [a0,a1,AV.own i143 n143,AV.map 3,i6 n4]::τ2)) :=
  around_sound (ans:=[(8,Ans.v (AV.eaddr (st a::r136))),(12,Ans.v (strsV d0.sorts)),(14,Ans.v (AV.list k142 m142 2 c142)),(15,Ans.c (AV.own i143 n143) (pB o0 o1 o2 z (a0) (a1) (a2) n4 τ2))]) (by kernel_rfl) (ai h0 (ai h1 (ai h2 (ai h3 trivial))))
end Go.Proofs.Sig
end
/- Signature: Sort, Compact, Join, Split, Cut by their contracts, laid in plain words. -/
section
namespace Go.Proofs
open Go.Shelf
def Tryd.laysSortS_ren:Go.Shelf.Ren:=⟨fun | 190=>54 | 125=>65 | 258=>64 | 128=>80 | 129=>81 | 302=>71 | 303=>72 | 304=>73 | 305=>74 | 306=>75 | 307=>76 | 308=>77 | 309=>78 | 310=>79 | 333=>90 | 329=>91 | 330=>92 | 334=>93 | 335=>94 | 336=>95 | 344=>101 | n=>n,fun | 31=>22 | 9=>9 | 3=>3 | 46=>92 | 0=>0 | 51=>107 | 53=>109 | 4=>4 | 183=>99 | 182=>98 | 131=>104 | 5=>5 | 218=>114 | 222=>118 | 228=>125 | 229=>126 | n=>n,fun | n=>n⟩
theorem Tryd.laysSortS:Go.Proofs.Lays.n190 Tryd.prog Tryd.laysSortS_ren := {
  mixed:=by kernel_rfl
  f125:=Tryd.func65.trans (congrArg some (by kernel_rfl))
  f128:=Tryd.func80.trans (congrArg some (by kernel_rfl))
  f129:=Tryd.func81.trans (congrArg some (by kernel_rfl))
  f190:=Tryd.func54.trans (congrArg some (by kernel_rfl))
  f258:=Tryd.func64.trans (congrArg some (by kernel_rfl))
  f302:=Tryd.func71.trans (congrArg some (by kernel_rfl))
  f303:=Tryd.func72.trans (congrArg some (by kernel_rfl))
  f304:=Tryd.func73.trans (congrArg some (by kernel_rfl))
  f305:=Tryd.func74.trans (congrArg some (by kernel_rfl))
  f306:=Tryd.func75.trans (congrArg some (by kernel_rfl))
  f307:=Tryd.func76.trans (congrArg some (by kernel_rfl))
  f308:=Tryd.func77.trans (congrArg some (by kernel_rfl))
  f309:=Tryd.func78.trans (congrArg some (by kernel_rfl))
  f310:=Tryd.func79.trans (congrArg some (by kernel_rfl))
  f329:=Tryd.func91.trans (congrArg some (by kernel_rfl))
  f330:=Tryd.func92.trans (congrArg some (by kernel_rfl))
  f333:=Tryd.func90.trans (congrArg some (by kernel_rfl))
  f334:=Tryd.func93.trans (congrArg some (by kernel_rfl))
  f335:=Tryd.func94.trans (congrArg some (by kernel_rfl))
  f336:=Tryd.func95.trans (congrArg some (by kernel_rfl))
  f344:=Tryd.func101.trans (congrArg some (by kernel_rfl))
  t0:=Tryd.underlying0
  a0:=Tryd.isAgg0
  z0:=Tryd.sizeOf0
  v0:=Tryd.zeroValue0
  t3:=Tryd.underlying3
  a3:=Tryd.isAgg3
  z3:=Tryd.sizeOf3
  v3:=Tryd.zeroValue3
  t4:=Tryd.underlying4
  a4:=Tryd.isAgg4
  z4:=Tryd.sizeOf4
  v4:=Tryd.zeroValue4
  t5:=Tryd.underlying5
  a5:=Tryd.isAgg5
  z5:=Tryd.sizeOf5
  v5:=Tryd.zeroValue5
  t9:=Tryd.underlying9
  a9:=Tryd.isAgg9
  z9:=Tryd.sizeOf9
  v9:=Tryd.zeroValue9
  t31:=Tryd.underlying22
  a31:=Tryd.isAgg22
  z31:=Tryd.sizeOf22
  v31:=Tryd.zeroValue22
  t46:=Tryd.underlying92
  a46:=Tryd.isAgg92
  z46:=Tryd.sizeOf92
  v46:=Tryd.zeroValue92
  t51:=Tryd.underlying107
  a51:=Tryd.isAgg107
  z51:=Tryd.sizeOf107
  v51:=Tryd.zeroValue107
  t53:=Tryd.underlying109
  a53:=Tryd.isAgg109
  z53:=Tryd.sizeOf109
  v53:=Tryd.zeroValue109
  t131:=Tryd.underlying104
  a131:=Tryd.isAgg104
  z131:=Tryd.sizeOf104
  v131:=Tryd.zeroValue104
  t182:=Tryd.underlying98
  a182:=Tryd.isAgg98
  z182:=Tryd.sizeOf98
  v182:=Tryd.zeroValue98
  t183:=Tryd.underlying99
  a183:=Tryd.isAgg99
  z183:=Tryd.sizeOf99
  v183:=Tryd.zeroValue99
  t218:=Tryd.underlying114
  a218:=Tryd.isAgg114
  z218:=Tryd.sizeOf114
  v218:=Tryd.zeroValue114
  t222:=Tryd.underlying118
  a222:=Tryd.isAgg118
  z222:=Tryd.sizeOf118
  v222:=Tryd.zeroValue118
  t228:=Tryd.underlying125
  a228:=Tryd.isAgg125
  z228:=Tryd.sizeOf125
  v228:=Tryd.zeroValue125
  t229:=Tryd.underlying126
  a229:=Tryd.isAgg126
  z229:=Tryd.sizeOf126
  v229:=Tryd.zeroValue126 }
def Tryd.laysCompS_ren:Go.Shelf.Ren:=⟨fun | 194=>56 | n=>n,fun | 31=>22 | 9=>9 | 3=>3 | 4=>4 | 0=>0 | n=>n,fun | n=>n⟩
theorem Tryd.laysCompS:Go.Proofs.Lays.n194 Tryd.prog Tryd.laysCompS_ren := {
  mixed:=by kernel_rfl
  f194:=Tryd.func56.trans (congrArg some (by kernel_rfl))
  t0:=Tryd.underlying0
  a0:=Tryd.isAgg0
  z0:=Tryd.sizeOf0
  v0:=Tryd.zeroValue0
  t3:=Tryd.underlying3
  a3:=Tryd.isAgg3
  z3:=Tryd.sizeOf3
  v3:=Tryd.zeroValue3
  t4:=Tryd.underlying4
  a4:=Tryd.isAgg4
  z4:=Tryd.sizeOf4
  v4:=Tryd.zeroValue4
  t9:=Tryd.underlying9
  a9:=Tryd.isAgg9
  z9:=Tryd.sizeOf9
  v9:=Tryd.zeroValue9
  t31:=Tryd.underlying22
  a31:=Tryd.isAgg22
  z31:=Tryd.sizeOf22
  v31:=Tryd.zeroValue22 }
def Tryd.laysJoin_ren:Go.Shelf.Ren:=⟨fun | 156=>52 | 165=>63 | 166=>51 | 169=>53 | 240=>62 | 241=>70 | 276=>69 | 277=>89 | n=>n,fun | 31=>22 | 9=>9 | 3=>3 | 4=>4 | 0=>0 | 20=>20 | 72=>76 | 76=>79 | 70=>73 | 37=>74 | 75=>78 | 127=>89 | 164=>95 | 5=>5 | 80=>83 | n=>n,fun | n=>n⟩
theorem Tryd.laysJoin:Go.Proofs.Lays.n156 Tryd.prog Tryd.laysJoin_ren := {
  mixed:=by kernel_rfl
  f156:=Tryd.func52.trans (congrArg some (by kernel_rfl))
  f165:=Tryd.func63.trans (congrArg some (by kernel_rfl))
  f166:=Tryd.func51.trans (congrArg some (by kernel_rfl))
  f169:=Tryd.func53.trans (congrArg some (by kernel_rfl))
  f240:=Tryd.func62.trans (congrArg some (by kernel_rfl))
  f241:=Tryd.func70.trans (congrArg some (by kernel_rfl))
  f276:=Tryd.func69.trans (congrArg some (by kernel_rfl))
  f277:=Tryd.func89.trans (congrArg some (by kernel_rfl))
  t0:=Tryd.underlying0
  a0:=Tryd.isAgg0
  z0:=Tryd.sizeOf0
  v0:=Tryd.zeroValue0
  t3:=Tryd.underlying3
  a3:=Tryd.isAgg3
  z3:=Tryd.sizeOf3
  v3:=Tryd.zeroValue3
  t4:=Tryd.underlying4
  a4:=Tryd.isAgg4
  z4:=Tryd.sizeOf4
  v4:=Tryd.zeroValue4
  t9:=Tryd.underlying9
  a9:=Tryd.isAgg9
  z9:=Tryd.sizeOf9
  v9:=Tryd.zeroValue9
  t20:=Tryd.underlying20
  a20:=Tryd.isAgg20
  z20:=Tryd.sizeOf20
  v20:=Tryd.zeroValue20
  t31:=Tryd.underlying22
  a31:=Tryd.isAgg22
  z31:=Tryd.sizeOf22
  v31:=Tryd.zeroValue22
  t37:=Tryd.underlying74
  a37:=Tryd.isAgg74
  z37:=Tryd.sizeOf74
  v37:=Tryd.zeroValue74
  t70:=Tryd.underlying73
  a70:=Tryd.isAgg73
  z70:=Tryd.sizeOf73
  v70:=Tryd.zeroValue73
  t72:=Tryd.underlying76
  a72:=Tryd.isAgg76
  z72:=Tryd.sizeOf76
  v72:=Tryd.zeroValue76
  t75:=Tryd.underlying78
  a75:=Tryd.isAgg78
  z75:=Tryd.sizeOf78
  v75:=Tryd.zeroValue78
  t76:=Tryd.underlying79
  a76:=Tryd.isAgg79
  z76:=Tryd.sizeOf79
  v76:=Tryd.zeroValue79
  t127:=Tryd.underlying89
  a127:=Tryd.isAgg89
  z127:=Tryd.sizeOf89
  v127:=Tryd.zeroValue89
  t164:=Tryd.underlying95
  a164:=Tryd.isAgg95
  z164:=Tryd.sizeOf95
  v164:=Tryd.zeroValue95 }
def Tryd.laysSplit_ren:Go.Shelf.Ren:=⟨fun | 146=>59 | 221=>68 | 268=>86 | 138=>87 | 143=>88 | 195=>98 | 197=>99 | 218=>100 | 219=>67 | 260=>102 | 217=>82 | 225=>83 | 224=>84 | 267=>85 | 266=>96 | 314=>97 | n=>n,fun | 9=>9 | 31=>22 | 3=>3 | 4=>4 | 0=>0 | 105=>123 | 21=>21 | 5=>5 | 46=>92 | 119=>128 | 139=>131 | 138=>130 | 146=>120 | 51=>107 | n=>n,fun | 1=>0 | 3=>1 | 4=>2 | n=>n⟩
theorem Tryd.laysSplit:Go.Proofs.Lays.n146 Tryd.prog Tryd.laysSplit_ren := {
  mixed:=by kernel_rfl
  f138:=Tryd.func87.trans (congrArg some (by kernel_rfl))
  f143:=Tryd.func88.trans (congrArg some (by kernel_rfl))
  f146:=Tryd.func59.trans (congrArg some (by kernel_rfl))
  f195:=Tryd.func98.trans (congrArg some (by kernel_rfl))
  f197:=Tryd.func99.trans (congrArg some (by kernel_rfl))
  f217:=Tryd.func82.trans (congrArg some (by kernel_rfl))
  f218:=Tryd.func100.trans (congrArg some (by kernel_rfl))
  f219:=Tryd.func67.trans (congrArg some (by kernel_rfl))
  f221:=Tryd.func68.trans (congrArg some (by kernel_rfl))
  f224:=Tryd.func84.trans (congrArg some (by kernel_rfl))
  f225:=Tryd.func83.trans (congrArg some (by kernel_rfl))
  f260:=Tryd.func102.trans (congrArg some (by kernel_rfl))
  f266:=Tryd.func96.trans (congrArg some (by kernel_rfl))
  f267:=Tryd.func85.trans (congrArg some (by kernel_rfl))
  f268:=Tryd.func86.trans (congrArg some (by kernel_rfl))
  f314:=Tryd.func97.trans (congrArg some (by kernel_rfl))
  t0:=Tryd.underlying0
  a0:=Tryd.isAgg0
  z0:=Tryd.sizeOf0
  v0:=Tryd.zeroValue0
  t3:=Tryd.underlying3
  a3:=Tryd.isAgg3
  z3:=Tryd.sizeOf3
  v3:=Tryd.zeroValue3
  t4:=Tryd.underlying4
  a4:=Tryd.isAgg4
  z4:=Tryd.sizeOf4
  v4:=Tryd.zeroValue4
  t5:=Tryd.underlying5
  a5:=Tryd.isAgg5
  z5:=Tryd.sizeOf5
  v5:=Tryd.zeroValue5
  t9:=Tryd.underlying9
  a9:=Tryd.isAgg9
  z9:=Tryd.sizeOf9
  v9:=Tryd.zeroValue9
  t21:=Tryd.underlying21
  a21:=Tryd.isAgg21
  z21:=Tryd.sizeOf21
  v21:=Tryd.zeroValue21
  t31:=Tryd.underlying22
  a31:=Tryd.isAgg22
  z31:=Tryd.sizeOf22
  v31:=Tryd.zeroValue22
  t46:=Tryd.underlying92
  a46:=Tryd.isAgg92
  z46:=Tryd.sizeOf92
  v46:=Tryd.zeroValue92
  t51:=Tryd.underlying107
  a51:=Tryd.isAgg107
  z51:=Tryd.sizeOf107
  v51:=Tryd.zeroValue107
  t105:=Tryd.underlying123
  a105:=Tryd.isAgg123
  z105:=Tryd.sizeOf123
  v105:=Tryd.zeroValue123
  t119:=Tryd.underlying128
  a119:=Tryd.isAgg128
  z119:=Tryd.sizeOf128
  t138:=Tryd.underlying130
  a138:=Tryd.isAgg130
  z138:=Tryd.sizeOf130
  v138:=Tryd.zeroValue130
  t139:=Tryd.underlying131
  a139:=Tryd.isAgg131
  z139:=Tryd.sizeOf131
  v139:=Tryd.zeroValue131
  t146:=Tryd.underlying120
  a146:=Tryd.isAgg120
  z146:=Tryd.sizeOf120
  v146:=Tryd.zeroValue120
  g1:=by kernel_rfl
  g3:=by kernel_rfl
  g4:=by kernel_rfl }
def Tryd.laysCut_ren:Go.Shelf.Ren:=⟨fun | 145=>37 | 220=>58 | 219=>67 | 217=>82 | 225=>83 | 224=>84 | 267=>85 | 266=>96 | 314=>97 | n=>n,fun | 9=>9 | 4=>4 | 59=>59 | 3=>3 | 5=>5 | 46=>92 | 146=>120 | 51=>107 | n=>n,fun | 1=>0 | n=>n⟩
theorem Tryd.laysCut:Go.Proofs.Lays.n145 Tryd.prog Tryd.laysCut_ren := {
  mixed:=by kernel_rfl
  f145:=Tryd.func37.trans (congrArg some (by kernel_rfl))
  f217:=Tryd.func82.trans (congrArg some (by kernel_rfl))
  f219:=Tryd.func67.trans (congrArg some (by kernel_rfl))
  f220:=Tryd.func58.trans (congrArg some (by kernel_rfl))
  f224:=Tryd.func84.trans (congrArg some (by kernel_rfl))
  f225:=Tryd.func83.trans (congrArg some (by kernel_rfl))
  f266:=Tryd.func96.trans (congrArg some (by kernel_rfl))
  f267:=Tryd.func85.trans (congrArg some (by kernel_rfl))
  f314:=Tryd.func97.trans (congrArg some (by kernel_rfl))
  t3:=Tryd.underlying3
  a3:=Tryd.isAgg3
  z3:=Tryd.sizeOf3
  v3:=Tryd.zeroValue3
  t4:=Tryd.underlying4
  a4:=Tryd.isAgg4
  z4:=Tryd.sizeOf4
  v4:=Tryd.zeroValue4
  t5:=Tryd.underlying5
  a5:=Tryd.isAgg5
  z5:=Tryd.sizeOf5
  v5:=Tryd.zeroValue5
  t9:=Tryd.underlying9
  a9:=Tryd.isAgg9
  z9:=Tryd.sizeOf9
  v9:=Tryd.zeroValue9
  t46:=Tryd.underlying92
  a46:=Tryd.isAgg92
  z46:=Tryd.sizeOf92
  v46:=Tryd.zeroValue92
  t51:=Tryd.underlying107
  a51:=Tryd.isAgg107
  z51:=Tryd.sizeOf107
  v51:=Tryd.zeroValue107
  t59:=Tryd.underlying59
  a59:=Tryd.isAgg59
  z59:=Tryd.sizeOf59
  v59:=Tryd.zeroValue59
  t146:=Tryd.underlying120
  a146:=Tryd.isAgg120
  z146:=Tryd.sizeOf120
  v146:=Tryd.zeroValue120
  g1:=by kernel_rfl }
theorem Tryd.joinExtra:Builder.Extra Tryd.prog Tryd.laysJoin_ren := {
  sizeBuilder:=by kernel_rfl
  liesBuilder:=by kernel_rfl
  t5:=Tryd.underlying5
  a5:=Tryd.isAgg5
  z5:=Tryd.sizeOf5
  v5:=Tryd.zeroValue5
  infoByte:=by kernel_rfl
  cellsByte:=by kernel_rfl
  sizeByte:=by kernel_rfl
  neB5:=by decide }
end Go.Proofs
end
/- Signature: the library's functions, as functions that are not walked. -/
section
open Go Go.Vm Go.Proofs
open Go.RowKit (Below)
namespace Go.Proofs.Sig
def lim:Nat:=4294967281
def cutFn:List AV→Option AV
  | [.str s,.str sep]=>if s.size < lim then some (.tup [.str ⟨(Lib.cut s.data.toList sep.data.toList).1.toArray⟩,.str ⟨(Lib.cut s.data.toList sep.data.toList).2.1.toArray⟩,.bool (Lib.cut s.data.toList sep.data.toList).2.2]) else none
  | _=>none
def joinB (l:List ByteArray) (sep:ByteArray):List UInt8:=Lib.join (l.map (·.data.toList)) sep.data.toList
section
variable [Fixed]
theorem two_str {C:Ctx} {w:World} {s t:ByteArray} {us:List Value} (h:RepAll C w [.str s,.str t] us):us=[.string s,.string t]:=by
  match us,h with
  | [],h=>simp only [RepAll] at h
  | [_],h=>simp only [RepAll,and_false] at h
  | [u,v],h=>simp only [RepAll,Rep,and_true] at h; rw [h.1,h.2]
  | _::_::_::_,h=>simp only [RepAll,and_false] at h
/-- What a function that is not walked answers. -/
def PureAt (f:FuncId) (g:List AV→Option AV):Prop:=∀ vs r,AV.ltAll 0 vs=true→g vs=some r→∀ (C:Ctx) (w:World) (us:List Value),SOk C w→RepAll C w vs us →
    Calls Tryd.prog f us.toArray w fun e w' => ∃ u,e = .returned u∧w'.os=w.os∧w'.tape=w.tape∧w'.output=w.output∧w.heap.size ≤ w'.heap.size∧(∀ x,x < w.heap.size→w'.heap[x]? = w.heap[x]?)∧Rep C w' r u
theorem pure37 (hM:∀ (C:Ctx) (w:World),SOk C w→∃ m,w.cell? ⟨0,0,none⟩=some (.int .i64 m)):PureAt 37 cutFn:=by
  intro vs r hlt hr C w us hs hrep
  clear hlt
  unfold cutFn at hr
  split at hr
  · rename_i s sep
    split at hr
    · rename_i hsz
      simp only [Option.some.injEq] at hr
      subst hr
      have e:=two_str hrep
      subst e
      obtain ⟨m,hm⟩:=hM C w hs
      refine Calls.mono (Any.strings_Cut Tryd.laysCut s sep m w hsz hm) ?_
      rintro e w' ⟨rfl,n,rfl⟩
      refine ⟨_,rfl,rfl,rfl,rfl,Nat.le_refl _,fun _ _=>rfl,?_⟩
      simp only [Rep]
      refine ⟨_,rfl,?_⟩
      simp only [RepAll,Rep,and_self]
    · cases hr
  · cases hr
theorem plainA:Plain Value.string AV.str:=⟨fun C w x=>by simp only [Rep],fun C w x u h=>by simpa only [Rep] using h,fun _=>rfl⟩
theorem rep_row {C:Ctx} {w:World} {l:List ByteArray} {u:Value} (hr:Rep C w (Go.Vm.strs l) u) :
    ∃ p c,u = .slice p l.length c∧l.length ≤ c∧(0 < l.length→∃ bk o,p=some ⟨bk,o,none⟩∧bk < w.heap.size∧∀ (j:Nat) x,l[j]? = some x→w.cell? ⟨bk,o + j,none⟩=some (.string x)):=by
  unfold Go.Vm.strs at hr
  simp only [Rep] at hr
  obtain ⟨_,_,a,cap,rfl,h3,_,_,_,h7⟩:=hr
  refine ⟨a,cap,rfl,h3,fun h0 => ?_⟩
  obtain ⟨b,o,us,rfl,hb,_,hh,hrep⟩:=h7 h0
  refine ⟨b,o,rfl,hb,fun j x hx => ?_⟩
  have hu:us=l.map Value.string:=plainA.allBack l us hrep
  subst hu
  exact hh j _ (by rw [List.getElem?_map,hx]; rfl)
def joinFn:List AV→Option AV
  | [a, .str sep] => match aSs.dec a with
    | some l=>if l.length ≤ 140737488355328∧(joinB l sep).length ≤ 140737488355328 then some (.str ⟨(joinB l sep).toArray⟩) else none
    | none=>none
  | _=>none
theorem row_str {C:Ctx} {w:World} {a:AV} {t:ByteArray} {us:List Value} (h:RepAll C w [a,.str t] us):∃ u,us=[u,.string t]∧Rep C w a u:=by
  match us,h with
  | [],h=>simp only [RepAll] at h
  | [_],h=>simp only [RepAll,and_false] at h
  | [u,v],h=>simp only [RepAll,Rep,and_true] at h; exact ⟨u,by rw [h.2],h.1⟩
  | _::_::_::_,h=>simp only [RepAll,and_false] at h
theorem pure52:PureAt 52 joinFn:=by
  intro vs r hlt hr C w us hs hrep
  clear hlt
  unfold joinFn at hr
  split at hr
  · rename_i a sep
    split at hr
    · rename_i l hl
      split at hr
      · rename_i hc
        simp only [Option.some.injEq] at hr
        subst hr
        obtain ⟨u,rfl,hu⟩:=row_str hrep
        have hu:=aSs.rep C w a u l hl hu
        rw [aSs_enc] at hu
        obtain ⟨p,c,rfl,h3,h4⟩:=rep_row hu
        by_cases h0:0 < l.length
        · obtain ⟨bk, o, rfl, hb, hcells⟩ := h4 h0
          refine Calls.mono (Any.strings_Join Tryd.laysJoin Tryd.joinExtra bk o c l sep w hcells hb hc.1 h3 hc.2) ?_
          rintro e w' ⟨rfl,hb⟩
          exact ⟨_,rfl,hb.os,hb.tape,hb.output,hb.size,fun x hx=>hb.block x hx,by simp only [Rep]; rfl⟩
        · have : l = [] := List.eq_nil_of_length_eq_zero (by omega)
          subst this
          refine Calls.mono (Any.strings_Join_none Tryd.laysJoin Tryd.joinExtra p c sep w) ?_
          rintro e w' ⟨rfl,rfl⟩
          exact ⟨_,rfl,rfl,rfl,rfl,Nat.le_refl _,fun _ _=>rfl,by simp only [Rep]; rfl⟩
      · cases hr
    · cases hr
  · cases hr
def splitL (s sep:ByteArray):List ByteArray:=Lib.splitB sep 0 (Lib.countB s sep) s
def splitFn:List AV→Option AV
  | [.str s,.str sep]=>if s.size < lim∧1 ≤ sep.size then some (Go.Vm.strs (splitL s sep)) else none
  | _=>none
theorem info9s:(Tryd.prog.info? 9).map (fun i=>(i.zero,i.size,i.bytes))=some (some (.string ByteArray.empty),1,16):=by kernel_rfl
theorem mut_fresh {C:Ctx} {w:World} (hs:SOk C w) : ¬ Mut C w.heap.size:=by
  rintro (h | ⟨id,o,h,hl,e⟩)
  · exact absurd (hs.fb _ h) (by omega)
  · have := hs.blk id o h hl
    omega
theorem pure59 (hM:∀ (C:Ctx) (w:World),SOk C w→∃ m,w.cell? ⟨0,0,none⟩=some (.int .i64 m)):PureAt 59 splitFn:=by
  intro vs r hlt hr C w us hs hrep
  clear hlt
  unfold splitFn at hr
  split at hr
  · rename_i s sep
    split at hr
    · rename_i hc
      simp only [Option.some.injEq] at hr
      subst hr
      have e:=two_str hrep
      subst e
      obtain ⟨m,hm⟩:=hM C w hs
      have hlen:(splitL s sep).length=Lib.countB s sep + 1:=Lib.splitB_all sep hc.2 0 _ s rfl
      refine Calls.mono (Any.strings_Split Tryd.laysSplit info9s s sep m w hc.1 hm hc.2) ?_
      rintro e w' ⟨rfl,rfl⟩
      have hsz:(w.alloc (.cells ((splitL s sep).map Value.string).toArray 9)).heap.size=w.heap.size + 1:=Array.size_push _
      have hnew:(w.alloc (.cells ((splitL s sep).map Value.string).toArray 9)).heap[w.heap.size]? = some (.cells ((splitL s sep).map Value.string).toArray 9):=Array.getElem?_push_size
      have hle:=Lib.countB_le sep hc.2 s.size s (Nat.le_refl _)
      have hlim:s.size < 4294967281:=hc.1
      refine ⟨_,rfl,rfl,rfl,rfl,Nat.le_trans (Nat.le_succ _) (Nat.le_of_eq hsz.symm),fun x hx=>Array.getElem?_push_lt hx |>.trans (Array.getElem?_eq_getElem hx).symm,?_⟩
      rw [← hlen]
      unfold Go.Vm.strs
      simp only [Rep]
      refine ⟨by simp,one_strs _,some ⟨w.heap.size,0,none⟩,_,rfl,Nat.le_refl _,?_,by simp,by simp,fun _ => ?_⟩
      · show _ ≤ maxLen
        rw [hlen]
        unfold maxLen
        omega
      · refine ⟨w.heap.size, 0, (splitL s sep).map Value.string, rfl, Nat.lt_of_lt_of_le (Nat.lt_succ_self _) (Nat.le_of_eq hsz.symm), mut_fresh hs, ?_, ?_⟩
        · intro i x hi
          show World.cell? _ _=_
          unfold World.cell?
          simp only
          rw [show (w.alloc (.cells ((Lib.splitB sep 0 (Lib.countB s sep) s).map Value.string).toArray (Tryd.laysSplit_ren.t 9))).heap[w.heap.size]? = some (.cells ((splitL s sep).map Value.string).toArray 9) from hnew]
          simpa using hi
        · exact plainA.all C _ (splitL s sep)
    · cases hr
  · cases hr
end
section
variable [Fixed]
def avB (l:List UInt8):AV := .str ⟨l.toArray⟩
theorem plainS:Plain encStr avB:=⟨fun C w x=>by simp only [Rep,avB],fun C w x u h=>by simpa only [Rep,avB] using h,fun _=>rfl⟩
def leB (x y:List UInt8):Bool:=decide (x ≤ y)
def strsO:List AV→Option (List ByteArray)
  | []=>some []
  | .str s :: l => match strsO l with
    | some r=>some (s::r)
    | none=>none
  | _=>none
theorem strsO_eq:∀ {cs:List AV} {l:List ByteArray},strsO cs=some l→cs=l.map .str
  | [],l,h=>by simp only [strsO,Option.some.injEq] at h; subst h; rfl
  | c :: cs, l, h => by
    unfold strsO at h
    split at h
    · rename_i e; cases e
    · rename_i s l' e
      simp only [List.cons.injEq] at e
      obtain ⟨rfl,rfl⟩:=e
      split at h
      · rename_i r hr
        simp only [Option.some.injEq] at h
        subst h
        rw [strsO_eq hr]
        rfl
      · cases h
    · cases h
def bytsO (cs : List AV) : Option (List (List UInt8)) := match strsO cs with
  | some l=>some (l.map (·.data.toList))
  | none=>none
theorem bytsO_eq (cs:List AV) (l:List (List UInt8)) (h:bytsO cs=some l):cs=l.map avB:=by
  unfold bytsO at h
  split at h
  · rename_i m hm
    simp only [Option.some.injEq] at h
    subst h
    rw [strsO_eq hm,List.map_map]
    apply List.map_congr_left
    intro x _
    simp [avB]
  · cases h
theorem compact_le {α:Type} [Inhabited α] [DecidableEq α] (l:List α):(Lib.compact l).length ≤ l.length:=by
  unfold Lib.compact Lib.compactUpTo
  rw [List.length_map]
  exact Nat.le_trans (List.length_filter_le _ _) (by simp)
end
end Go.Proofs.Sig
end
/- Signature: what the parser's read does. -/
section
open Go Go.Vm Go.Proofs
namespace Go.Proofs.Sig
section
variable [Fixed]
theorem rowS:RowT Cod.str 22 9 16:=⟨Tryd.underlying22,by kernel_rfl,⟨.str ⟨#[]⟩,by kernel_rfl,rfl⟩,by kernel_rfl,by kernel_rfl⟩
theorem rowC:RowT cC 23 48 32:=⟨Tryd.underlying23,by kernel_rfl,⟨.agg [.str ⟨#[]⟩,.str ⟨#[]⟩],by kernel_rfl,rfl⟩,by kernel_rfl,by kernel_rfl⟩
theorem rowP:RowT cP 24 37 40:=⟨Tryd.underlying24,by kernel_rfl,⟨.agg [.str ⟨#[]⟩,.list .nil 0 0 []],by kernel_rfl,rfl⟩,by kernel_rfl,by kernel_rfl⟩
end
variable [Fixed]
def row {α:Type} (A:Cod α) (l:List α):List Ob:=if l.length=0 then [] else [.arr l.length A.k (l.flatMap A.enc)]
theorem grS_row {α:Type} (A:Cod α) (σ0:List Ob) (l:List α):grS A σ0 l=σ0 ++ row A l:=by
  unfold grS row
  split <;> simp
def nz (n:Nat):Nat:=if n=0 then 0 else 1
theorem row_len {α:Type} (A:Cod α) (l:List α):(row A l).length=nz l.length:=by
  unfold row nz
  split <;> rfl
/-- The rows that the parser has made. -/
def rowsP (x:Sgn):List Ob:=row Cod.str x.sorts ++ (row cC x.consts ++ row cP x.preds)
def hS (x:Sgn):AV:=grV (.list .nil 0 0 []) 5 x.sorts.length
def hC (x:Sgn):AV:=grV (.list .nil 0 0 []) (5 + nz x.sorts.length) x.consts.length
def hP (x:Sgn):AV:=grV (.list .nil 0 0 []) (5 + nz x.sorts.length + nz x.consts.length) x.preds.length
/-- The parser's store. -/
def lay (x:Sgn) (o0 o1 o2:Ob) (n:Int):List Ob:=pB o0 o1 o2 (mapE (declsOf x)) (hS x) (hC x) (hP x) n (rowsP x)
theorem len_gr (t e:TypeId) (hu:Tryd.prog.underlying t=some (.slice e)) (σ:List Ob) (i n:Nat):lenv Tryd.prog t σ (grV (.list .nil 0 0 []) i n)=some (i6 (↑n:Int)):=by
  unfold lenv grV
  rw [hu]
  by_cases h:n=0
  · rw [if_pos h,h]
  · rw [if_neg h]
/-- A line's words. -/
def wordsL (line:ByteArray):List ByteArray:=splitL line ⟨#[32]⟩
def isK (k s:ByteArray):Bool:=k.toList == s.toList
/-- What a line adds, by its words. -/
def readG (x:Sgn) (l:List ByteArray):Option Sgn :=
  if decide ((↑l.length : Int) ≥ 2) then
    if isK (nS l 0) kSort then
      if ((↑l.length:Int) == 2) && ((IntKind.wrap .i64 ((↑x.consts.length:Int) + (↑x.preds.length:Int)) == 0) && declB (declsOf x) (nS l 1) ⟨kSort,[]⟩) then some { x with sorts:=x.sorts ++ [nS l 1] } else none
    else if isK (nS l 0) kCon then
      if ((↑l.length:Int) == 3) && (((↑x.preds.length:Int) == 0) && declB (declsOf x) (nS l 1) ⟨nS l 0,l.drop 2⟩) then some { x with consts:=x.consts ++ [⟨nS l 1,nS l 2⟩] } else none
    else if isK (nS l 0) kPre then
      if declB (declsOf x) (nS l 1) ⟨nS l 0,l.drop 2⟩ then some { x with preds:=x.preds ++ [⟨nS l 1,l.drop 2⟩] } else none
    else none
  else none
def readF (x:Sgn) (line:ByteArray):Option Sgn:=readG x (wordsL line)
theorem shape39:codeOf Tryd.f39 = .seq (regN Tryd.f39 0) (.seq (.region 1 (opsR (regN Tryd.f39 1)) false) (.seq (.region 2 (opsR (regN Tryd.f39 2)) true) (.seq (regN Tryd.f39 3) (.block 0 (.seq (regN Tryd.f39 5) (.cond (.tmp 23)
    (.seq (.region 6 (opsR (regN Tryd.f39 6)) true) (regN Tryd.f39 7)) (.seq (regN Tryd.f39 8) (.cond (.tmp 71)
    (.seq (.region 9 (opsR (regN Tryd.f39 9)) true) (regN Tryd.f39 10)) (.seq (regN Tryd.f39 11) (.cond (.tmp 116)
    (.seq (.region 12 (opsR (regN Tryd.f39 12)) true) (regN Tryd.f39 13)) (.region 4 (opsR (regN Tryd.f39 4)) false)))))))))))  := by kernel_rfl
end Go.Proofs.Sig
end
/- Signature: read, walked. -/
section
open Go Go.Vm Go.Proofs
namespace Go.Proofs.Sig
variable [Fixed]
variable {X:Ext} {call:Caller}
def dK (l:List Nat):List Nat:=(List.range 147).filter fun i => !(memN i l)
theorem decls_add_sort {x:Sgn} {s:ByteArray} (hc:x.consts=[]) (hp:x.preds=[]):declsOf { x with sorts:=x.sorts ++ [s] }=declsOf x ++ [(s,⟨kSort,[]⟩)]:=by
  simp [declsOf,sortsD,consD,predD,hc,hp]
theorem decls_add_con {x:Sgn} {c:Cst} (hp:x.preds=[]):declsOf { x with consts:=x.consts ++ [c] }=declsOf x ++ [(c.name,⟨kCon,[c.sort]⟩)]:=by
  simp [declsOf,sortsD,consD,predD,hp]
theorem decls_add_pre {x:Sgn} {p:Prd}:declsOf { x with preds:=x.preds ++ [p] }=declsOf x ++ [(p.name,⟨kPre,p.args⟩)]:=by
  simp [declsOf,sortsD,consD,predD]
theorem isK_iff {k s:ByteArray}:isK k s=true ↔ k=s:=by unfold isK; exact eqB_iff
theorem row_nil {α:Type} (A:Cod α) {l:List α} (h:l.length=0):row A l=[]:=if_pos h
theorem grV_own {v:AV} {i n:Nat} (h:n ≠ 0):grV v i n = .own i n:=if_neg h
theorem len1 {α:Type} (l:List α) (x:α):(l ++ [x]).length ≠ 0:=by simp
/-- A sort is appended. -/
theorem add_sort {x:Sgn} {s:ByteArray} {o0 o1 o2:Ob} {z:List (AV × AV)} {a1 a2:AV} {n:Int} (hl:x.sorts.length ≤ 1000000) (hc:x.consts.length=0) (hp:x.preds.length=0) :
    appendv Tryd.prog 22 (pB o0 o1 o2 z (hS x) a1 a2 n (rowsP x)) 0 (hS x) (.list .clip 1 1 [st s])=some (.own 5 (x.sorts.length + 1),pB o0 o1 o2 z (hS x) a1 a2 n (rowsP { x with sorts:=x.sorts ++ [s] })):=by
  have h:=gr_step (A:=Cod.str) (t:=22) (e:=9) (kb:=16) rowS (lk := .nil) (sz0:=0) (.inl rfl) (σ0:=pB o0 o1 o2 z (hS x) a1 a2 n []) (l:=x.sorts) (m:=[s]) (x := .list .clip 1 1 [st s]) (appended_row [s]) (by show _ ≤ 140737488355328; simp only [List.length_cons,List.length_nil]; omega)
  rw [grS_row,grS_row,grV_own (len1 _ _),List.length_append] at h
  have e1:rowsP x=row Cod.str x.sorts:=by unfold rowsP; rw [row_nil cC hc,row_nil cP hp,List.append_nil,List.append_nil]
  have e2:rowsP { x with sorts:=x.sorts ++ [s] }=row Cod.str (x.sorts ++ [s]):=by unfold rowsP; simp only [row_nil cC hc,row_nil cP hp,List.append_nil]
  rw [e1,e2]
  exact h
theorem add_con {x:Sgn} {c:Cst} {o0 o1 o2:Ob} {z:List (AV × AV)} {a0 a2:AV} {n:Int} (hl:x.consts.length ≤ 1000000) (hp:x.preds.length=0) :
    appendv Tryd.prog 23 (pB o0 o1 o2 z a0 (hC x) a2 n (rowsP x)) 0 (hC x) (.list .clip 1 2 [st c.name,st c.sort])=some (.own (5 + nz x.sorts.length) (x.consts.length + 1),pB o0 o1 o2 z a0 (hC x) a2 n (rowsP { x with consts:=x.consts ++ [c] })):=by
  have h:=gr_step (A:=cC) (t:=23) (e:=48) (kb:=32) rowC (lk := .nil) (sz0:=0) (.inl rfl) (σ0:=pB o0 o1 o2 z a0 (hC x) a2 n (row Cod.str x.sorts)) (l:=x.consts) (m:=[c]) (x := .list .clip 1 2 [st c.name,st c.sort]) (appended_row [c]) (by show _ ≤ 140737488355328; simp only [List.length_cons,List.length_nil]; omega)
  have hlen : (pB o0 o1 o2 z a0 (hC x) a2 n (row Cod.str x.sorts)).length = 5 + nz x.sorts.length := by
    rw [← row_len Cod.str]; simp [pB]; omega
  rw [grS_row,grS_row,grV_own (len1 _ _),List.length_append,hlen] at h
  have e1:rowsP x=row Cod.str x.sorts ++ row cC x.consts:=by unfold rowsP; rw [row_nil cP hp,List.append_nil]
  have e2:rowsP { x with consts:=x.consts ++ [c] }=row Cod.str x.sorts ++ row cC (x.consts ++ [c]):=by unfold rowsP; simp only [row_nil cP hp,List.append_nil]
  rw [e1,e2]
  exact h
theorem add_pre {x:Sgn} {p:Prd} {o0 o1 o2:Ob} {z:List (AV × AV)} {a0 a1:AV} {n:Int} (hl:x.preds.length ≤ 1000000) :
    appendv Tryd.prog 24 (pB o0 o1 o2 z a0 a1 (hP x) n (rowsP x)) 0 (hP x) (.list .clip 1 2 [st p.name,strsV p.args])=some (.own (5 + nz x.sorts.length + nz x.consts.length) (x.preds.length + 1),pB o0 o1 o2 z a0 a1 (hP x) n (rowsP { x with preds:=x.preds ++ [p] })):=by
  have hx : appended (grS cP (pB o0 o1 o2 z a0 a1 (hP x) n (row Cod.str x.sorts ++ row cC x.consts)) x.preds) cP.k (.list .clip 1 2 [st p.name, strsV p.args]) = some ([p].length, [p].flatMap cP.enc) := by
    have:=appended_row (A:=cP) (σ:=grS cP (pB o0 o1 o2 z a0 a1 (hP x) n (row Cod.str x.sorts ++ row cC x.consts)) x.preds) (lk := .clip) [p]
    rw [cP_encs] at this ⊢
    exact this
  have h:=gr_step (A:=cP) (t:=24) (e:=37) (kb:=40) rowP (lk := .nil) (sz0:=0) (.inl rfl) (σ0:=pB o0 o1 o2 z a0 a1 (hP x) n (row Cod.str x.sorts ++ row cC x.consts)) (l:=x.preds) (m:=[p]) hx (by show _ ≤ 140737488355328; simp only [List.length_cons,List.length_nil]; omega)
  have hlen : (pB o0 o1 o2 z a0 a1 (hP x) n (row Cod.str x.sorts ++ row cC x.consts)).length = 5 + nz x.sorts.length + nz x.consts.length := by
    rw [← row_len Cod.str,← row_len cC]; simp [pB]; omega
  rw [grS_row,grS_row,grV_own (len1 _ _),List.length_append,hlen] at h
  have e1:rowsP x=row Cod.str x.sorts ++ row cC x.consts ++ row cP x.preds:=by unfold rowsP; rw [List.append_assoc]
  have e2:rowsP { x with preds:=x.preds ++ [p] }=row Cod.str x.sorts ++ row cC x.consts ++ row cP (x.preds ++ [p]):=by unfold rowsP; simp only [List.append_assoc]
  rw [e1,e2]
  exact h
/-- The rest of a list of strings. -/
theorem slc_two {σ:List Ob} {l:List ByteArray} (h:2 ≤ l.length):slc Tryd.prog 22 σ true 0 (strsV l) (some (i6 2)) none none=some (strsV (l.drop 2),σ):=by
  have hu:Tryd.prog.underlying 22=some (.slice 9):=Tryd.underlying22
  have hk:Tryd.prog.cellsOf 9=1:=by kernel_rfl
  have hi:(Tryd.prog.info? 9).isSome=true:=by kernel_rfl
  have ho:AV.owns (strsV l)=[]:=by simp [strsV,AV.owns,owns_strs]
  unfold slc byValue1
  rw [if_pos ho]
  simp only [if_true]
  unfold slicev strsV
  rw [hu]
  simp only [hk,hi,Option.isSome_none,Bool.false_eq_true,false_implies,and_self,or_true,if_true,boundv]
  have h2:(0:Int) ≤ 2∧(2:Int) ≤ ↑l.length:=by omega
  rw [if_pos h2]
  have e2:(2:Int).toNat=2:=rfl
  simp only [keep,e2,Nat.mul_one,Option.some.injEq,Prod.mk.injEq,and_true,reduceCtorEq,if_false,false_or,false_and]
  rw [List.take_of_length_le (by simp),← List.map_drop,List.length_drop]
theorem lt_setN {m:Nat}:∀ {l:List AV} {t:Nat} {v:AV},AV.ltAll m l=true→AV.lt m v=true→AV.ltAll m (setN l t v)=true
  | [],_,_,_,_=>rfl
  | u :: l, 0, v, h, hv => by
    simp only [AV.ltAll,Bool.and_eq_true] at h
    simp only [setN,AV.ltAll,hv,h.2,Bool.and_self]
  | u :: l, t + 1, v, h, hv => by
    simp only [AV.ltAll,Bool.and_eq_true] at h
    simp only [setN,AV.ltAll,h.1,lt_setN h.2 hv,Bool.and_self]
theorem lt_forget {m:Nat}:∀ {D:List Nat} {l:List AV},AV.ltAll m l=true→AV.ltAll m (forgetT D l)=true
  | [],_,h=>h
  | t::D,l,h=>lt_forget (D:=D) (lt_setN h rfl)
theorem lt_sets {m:Nat}:∀ {k:List (Nat × AV)} {l:List AV},(∀ p ∈ k,AV.lt m p.2=true)→AV.ltAll m l=true→AV.ltAll m (sets k l)=true
  | [],_,_,h=>h
  | p::k,l,hk,h=>lt_sets (k:=k) (fun q hq=>hk q (List.mem_cons_of_mem _ hq)) (lt_setN h (hk p (List.mem_cons_self ..)))
theorem lt_undef (m:Nat):∀ n,AV.ltAll m (List.replicate n .undef)=true
  | 0=>rfl
  | n + 1=>by simp only [List.replicate_succ,AV.ltAll,AV.lt,lt_undef m n,Bool.and_self]
theorem lt_kst {m:Nat} {k:List (Nat × AV)} {σ:List Ob} (h:∀ p ∈ k,AV.lt m p.2=true):AV.ltAll m (kst147 k σ).tmps=true:=lt_sets h (lt_forget (lt_undef m 147))
theorem lt_strsV (m:Nat) (l:List ByteArray):AV.lt m (strsV l)=true:=by simp [strsV,AV.lt,lt_strs]
end Go.Proofs.Sig
end
/- Signature: read, told. -/
section
open Go Go.Vm Go.Proofs
namespace Go.Proofs.Sig
variable [Fixed]
variable {X:Ext} {call:Caller}
/-- The first three boxes are there still. -/
def first3 (o0 o1 o2:Ob) (σ:List Ob):Prop:=∃ τ,σ=o0::o1::o2::τ
structure OkLine (line:ByteArray):Prop where
  n:(wordsL line).length ≤ 10000000
  s:∀ s ∈ wordsL line,s.size ≤ 10000000
theorem word_le {line:ByteArray} (h:OkLine line) (i:Nat):(nS (wordsL line) i).size ≤ 10000000:=by
  by_cases hi:i < (wordsL line).length
  · rw [nS,getD_lt hi]; exact h.s _ (List.getElem_mem hi)
  · rw [nS, List.getD_eq_getElem?_getD, List.getElem?_eq_none (by omega)]
    show (0:Nat) ≤ _
    omega
abbrev KS (l:List ByteArray) (d:Dcl) (σ:List Ob):St:=kst147 [(0,.ref 4 0),(4,strsV l),(5,.eaddr [st d.kind,strsV d.sorts]),(20,st d.kind)] σ
abbrev K2 (l:List ByteArray) (σ:List Ob):St:=kst147 [(0,.ref 4 0),(4,strsV l)] σ
abbrev K3 (l:List ByteArray) (d:Dcl) (σ:List Ob):St:=kst147 [(0,.ref 4 0),(4,strsV l),(5,.eaddr [st d.kind,strsV d.sorts])] σ
theorem kst_eq (k:List (Nat × AV)) (σ:List Ob):kst147 k σ=⟨(kst147 k []).tmps,σ⟩:=rfl
abbrev ksB (l:List ByteArray) (k:Nat):List (Nat × AV):=[(0,AV.ref 4 0),(4,strsV l),(5,AV.ref k 0),(13,strsV l),(14,AV.eaddr (st (nS l 0)::tS l 0)),(15,st (nS l 0)),(16,strsV l),(17,strsV (l.drop 2)),(18,AV.agg [st (nS l 0),strsV (l.drop 2)])]
theorem fgP2:fgP (2000 + 2)=[1000002]:=rfl
theorem hat_of {l:List ByteArray} (i:Nat) (hi:i < l.length) (σ:List Ob):keep σ (indexAddrv Tryd.prog 22 σ (strsV l) (i6 (↑i:Int)))=some (.eaddr (st (nS l i)::tS l i),σ):=at_strs hi
section
variable {R:Ex→St→Prop} {RP:Value→St→Prop} {rest:Code} {o0 o1 o2:Ob} {z:List (AV × AV)} {a0 a1 a2:AV} {n:Int} {τ:List Ob} {l:List ByteArray}
/-- The box of a declaration. -/
theorem read_box (hX:ExtOk Tryd.prog X) (hc:CallOk Tryd.prog call) {d:Dcl} (h2:2 ≤ l.length) (hd:d=⟨nS l 0,l.drop 2⟩)
    (h:SP Tryd.prog 0 [] rest (K3 l d (pB o0 o1 o2 z a0 a1 a2 n τ)) R RP):SP Tryd.prog 0 [] (.seq (.region 2 (opsR (regN Tryd.f39 2)) true) rest) (K2 l (pB o0 o1 o2 z a0 a1 a2 n τ)) R RP:=by
  rw [K2,kst_eq]
  have hp:=f39_R2_ o0 o1 o2 z a0 a1 a2 n τ l (l.drop 2) X call 0 (nS l 0) (tS l 0) (hat_of 0 (by omega) _) (slc_two h2)
  have hreg:popR (regN Tryd.f39 2) = .region 2 (opsR (regN Tryd.f39 2)).pop true:=by kernel_rfl
  rw [hreg] at hp
  have hv:=vopm_of hp (by kernel_rfl) (by kernel_rfl) (by kernel_rfl) (by kernel_rfl) (by kernel_rfl) (by kernel_rfl)
  rw [kst_eq [(0,AV.ref 4 0),(4,strsV l)] (pB o0 o1 o2 z a0 a1 a2 n τ),kst_eq (ksB l (List.length (pB o0 o1 o2 z a0 a1 a2 n τ))) (pB o0 o1 o2 z a0 a1 a2 n τ ++ [Ob.cells [st emp,AV.list LK.nil 0 0 []]]),fgP2] at hv
  have hfin : Vm.forget (dK [0, 4, 5]) ⟨setN (kst147 (ksB l (List.length (pB o0 o1 o2 z a0 a1 a2 n τ))) []).tmps 5 (.eaddr [st (nS l 0), strsV (l.drop 2)]), pB o0 o1 o2 z a0 a1 a2 n τ⟩ = K3 l d (pB o0 o1 o2 z a0 a1 a2 n τ) := by
    rw [hd]
    kernel_rfl
  refine SP.seq (R1 := fun e T => e = .normal ∧ Vm.forget (dK [0, 4, 5]) T = K3 l d (pB o0 o1 o2 z a0 a1 a2 n τ)) (SP.boxLast hX hc mixed21 (t := 68) (d := 5) (x := .tmp 18) (v := .agg [st (nS l 0), strsV (l.drop 2)]) (L := [1000002]) (pre := (opsR (regN Tryd.f39 2)).pop) (o := (opsR (regN Tryd.f39 2)).toList.getD 7 default) (zs := [st emp, AV.list LK.nil 0 0 []])
    (T:=(kst147 (ksB l (List.length (pB o0 o1 o2 z a0 a1 a2 n τ))) []).tmps) (σ:=pB o0 o1 o2 z a0 a1 a2 n τ)
    (by kernel_rfl) (by kernel_rfl) (by kernel_rfl) (by kernel_rfl) (by kernel_rfl) (by kernel_rfl) rfl hv (by kernel_rfl) (by kernel_rfl) (by kernel_rfl) (by kernel_rfl) (by kernel_rfl) (Nat.zero_le _) (by kernel_rfl) (by kernel_rfl) (by kernel_rfl) (by kernel_rfl) (by kernel_rfl) ?_ ?_ ⟨rfl,hfin⟩) ?_ ?_
  · show AV.ltAll _ [st (nS l 0), strsV (l.drop 2)] = true
    simp only [AV.ltAll,AV.lt,lt_strsV,Bool.and_self]
  · have e : setN (kst147 (ksB l (List.length (pB o0 o1 o2 z a0 a1 a2 n τ))) []).tmps 5 .any = (kst147 [(0, AV.ref 4 0), (4, strsV l), (13, strsV l), (14, AV.eaddr (st (nS l 0) :: tS l 0)), (15, st (nS l 0)), (16, strsV l), (17, strsV (l.drop 2)), (18, AV.agg [st (nS l 0), strsV (l.drop 2)])] []).tmps := by kernel_rfl
    rw [e]
    apply lt_kst
    intro p hp
    simp only [List.mem_cons,List.not_mem_nil,or_false] at hp
    rcases hp with rfl | rfl | rfl | rfl | rfl | rfl | rfl | rfl
    · simp [AV.lt,pB]
    all_goals simp only [AV.lt,AV.ltAll,lt_strsV,tS,lt_strs,Bool.and_self]
  · rintro T ⟨_, hT⟩
    exact SP.forget (dK [0,4,5]) (by rw [hT]; exact h)
  · rintro e T h ⟨h1, _⟩
    exact absurd h1 h
theorem chk6 (hX:ExtOk Tryd.prog X) (hc:CallOk Tryd.prog call) {d:Dcl} {S S1:St} {b:Bool} {z' : List (AV × AV)} (hpre:vexec Tryd.prog X call 0 0 fgP (popR (regN Tryd.f39 6)) S=some (.normal,S1)) (hev:evs S1 [.tmp 25,.tmp 55]=some [.ref 4 0,bo b])
    (hst:S1.st=pB o0 o1 o2 z' a0 a1 a2 n τ) (hf:Vm.forget (dK [0,4,5,20]) (putSlot S1 (some 56) (.tup []) S1.st)=KS l d (pB o0 o1 o2 z' a0 a1 a2 n τ)) (hr:b=true→SP Tryd.prog 0 [] rest (KS l d (pB o0 o1 o2 z' a0 a1 a2 n τ)) R RP) (hp:b=false→RP (wrongV n) S1):SP Tryd.prog 0 [] (.seq (.region 6 (opsR (regN Tryd.f39 6)) true) rest) S R RP:=by
  have hreg:popR (regN Tryd.f39 6) = .region 6 (opsR (regN Tryd.f39 6)).pop true:=by kernel_rfl
  rw [hreg] at hpre
  have hcall:CallP Tryd.prog 38 [.ref 4 0,bo b] S1.st 0 (fun r σ' => b=true∧σ' = S1.st∧r = .tup []) (fun u σ' => b=false∧σ' = S1.st∧u=wrongV n):=by rw [hst]; exact fail38 hX hc
  exact SP.check hX hc mixed21 (dK [0, 4, 5, 20]) (o := (opsR (regN Tryd.f39 6)).toList.getD 31 default) (c := { callee := .value (.func 38), args := #[.tmp 25, .tmp 55], argTypes := #[56, 4] }) (f := 38) (by kernel_rfl) (by kernel_rfl) (by kernel_rfl) (by kernel_rfl) (by kernel_rfl) (by kernel_rfl) (by kernel_rfl) (by kernel_rfl) (by kernel_rfl) (by kernel_rfl) (by kernel_rfl)
    (by kernel_rfl) rfl (by kernel_rfl) hpre hev hcall (by rw [show (((opsR (regN Tryd.f39 6)).toList.getD 31 default).dst)=some 56 by kernel_rfl]; exact hf) hr hp
theorem chk9 (hX:ExtOk Tryd.prog X) (hc:CallOk Tryd.prog call) {d:Dcl} {S S1:St} {b:Bool} {z' : List (AV × AV)} (hpre:vexec Tryd.prog X call 0 0 fgP (popR (regN Tryd.f39 9)) S=some (.normal,S1)) (hev:evs S1 [.tmp 73,.tmp 96]=some [.ref 4 0,bo b])
    (hst:S1.st=pB o0 o1 o2 z' a0 a1 a2 n τ) (hf:Vm.forget (dK [0,4,5,20]) (putSlot S1 (some 97) (.tup []) S1.st)=KS l d (pB o0 o1 o2 z' a0 a1 a2 n τ)) (hr:b=true→SP Tryd.prog 0 [] rest (KS l d (pB o0 o1 o2 z' a0 a1 a2 n τ)) R RP) (hp:b=false→RP (wrongV n) S1):SP Tryd.prog 0 [] (.seq (.region 9 (opsR (regN Tryd.f39 9)) true) rest) S R RP:=by
  have hreg:popR (regN Tryd.f39 9) = .region 9 (opsR (regN Tryd.f39 9)).pop true:=by kernel_rfl
  rw [hreg] at hpre
  have hcall:CallP Tryd.prog 38 [.ref 4 0,bo b] S1.st 0 (fun r σ' => b=true∧σ' = S1.st∧r = .tup []) (fun u σ' => b=false∧σ' = S1.st∧u=wrongV n):=by rw [hst]; exact fail38 hX hc
  exact SP.check hX hc mixed21 (dK [0, 4, 5, 20]) (o := (opsR (regN Tryd.f39 9)).toList.getD 24 default) (c := { callee := .value (.func 38), args := #[.tmp 73, .tmp 96], argTypes := #[56, 4] }) (f := 38) (by kernel_rfl) (by kernel_rfl) (by kernel_rfl) (by kernel_rfl) (by kernel_rfl) (by kernel_rfl) (by kernel_rfl) (by kernel_rfl) (by kernel_rfl) (by kernel_rfl) (by kernel_rfl)
    (by kernel_rfl) rfl (by kernel_rfl) hpre hev hcall (by rw [show (((opsR (regN Tryd.f39 9)).toList.getD 24 default).dst)=some 97 by kernel_rfl]; exact hf) hr hp
theorem chk12 (hX:ExtOk Tryd.prog X) (hc:CallOk Tryd.prog call) {d:Dcl} {S S1:St} {b:Bool} {z' : List (AV × AV)} (hpre:vexec Tryd.prog X call 0 0 fgP (popR (regN Tryd.f39 12)) S=some (.normal,S1)) (hev:evs S1 [.tmp 118,.tmp 127]=some [.ref 4 0,bo b])
    (hst:S1.st=pB o0 o1 o2 z' a0 a1 a2 n τ) (hf:Vm.forget (dK [0,4,5,20]) (putSlot S1 (some 128) (.tup []) S1.st)=KS l d (pB o0 o1 o2 z' a0 a1 a2 n τ)) (hr:b=true→SP Tryd.prog 0 [] rest (KS l d (pB o0 o1 o2 z' a0 a1 a2 n τ)) R RP) (hp:b=false→RP (wrongV n) S1):SP Tryd.prog 0 [] (.seq (.region 12 (opsR (regN Tryd.f39 12)) true) rest) S R RP:=by
  have hreg:popR (regN Tryd.f39 12) = .region 12 (opsR (regN Tryd.f39 12)).pop true:=by kernel_rfl
  rw [hreg] at hpre
  have hcall:CallP Tryd.prog 38 [.ref 4 0,bo b] S1.st 0 (fun r σ' => b=true∧σ' = S1.st∧r = .tup []) (fun u σ' => b=false∧σ' = S1.st∧u=wrongV n):=by rw [hst]; exact fail38 hX hc
  exact SP.check hX hc mixed21 (dK [0, 4, 5, 20]) (o := (opsR (regN Tryd.f39 12)).toList.getD 10 default) (c := { callee := .value (.func 38), args := #[.tmp 118, .tmp 127], argTypes := #[56, 4] }) (f := 38) (by kernel_rfl) (by kernel_rfl) (by kernel_rfl) (by kernel_rfl) (by kernel_rfl) (by kernel_rfl) (by kernel_rfl) (by kernel_rfl) (by kernel_rfl) (by kernel_rfl) (by kernel_rfl)
    (by kernel_rfl) rfl (by kernel_rfl) hpre hev hcall (by rw [show (((opsR (regN Tryd.f39 12)).toList.getD 10 default).dst)=some 128 by kernel_rfl]; exact hf) hr hp
end
end Go.Proofs.Sig
end
/- Signature: read's three kinds of lines. -/
section
open Go Go.Vm Go.Proofs
namespace Go.Proofs.Sig
variable [Fixed]
variable {X:Ext} {call:Caller}
def sortC (x:Sgn) (l:List ByteArray):Bool:=((↑l.length:Int) == 2) && ((IntKind.wrap .i64 ((↑x.consts.length:Int) + (↑x.preds.length:Int)) == 0) && declB (declsOf x) (nS l 1) ⟨kSort,[]⟩)
def conC (x:Sgn) (l:List ByteArray):Bool:=((↑l.length:Int) == 3) && (((↑x.preds.length:Int) == 0) && declB (declsOf x) (nS l 1) ⟨nS l 0,l.drop 2⟩)
def preC (x:Sgn) (l:List ByteArray):Bool:=declB (declsOf x) (nS l 1) ⟨nS l 0,l.drop 2⟩
/-- The end of read: the line adds what it adds. -/
def Good (x' : Sgn) (o0 o1 o2:Ob) (n:Int) (e:Ex) (T:St):Prop:=e = .normal∧T.st=lay x' o0 o1 o2 n
def Bad (o0 o1 o2:Ob) (n:Int) (v:Value) (T:St):Prop:=v=wrongV n∧first3 o0 o1 o2 T.st
theorem declM_true {m:Syms} {s:ByteArray} {d:Dcl} (h:declB m s d=true):declM m s d=m ++ [(s,d)]:=if_pos h
section
variable {o0 o1 o2:Ob} {n:Int} {x:Sgn} {l:List ByteArray}
theorem read_sort (hX:ExtOk Tryd.prog X) (hc:CallOk Tryd.prog call) {d:Dcl} (hk:okG x=true) (h57:H57 (bareX X) call) (hw:∀ i,(nS l i).size ≤ 10000000) {R:Ex→St→Prop} {RP:Value→St→Prop}
    (hR:sortC x l=true→∀ e T,Good { x with sorts:=x.sorts ++ [nS l 1] } o0 o1 o2 n e T→R e T) (hRP:sortC x l=false→∀ v T,Bad o0 o1 o2 n v T→RP v T) :
    SP Tryd.prog 0 [] (.seq (.region 6 (opsR (regN Tryd.f39 6)) true) (regN Tryd.f39 7)) (KS l d (lay x o0 o1 o2 n)) R RP:=by
  obtain ⟨hns,hnc,hnp,hss,hcc,hpp⟩:=okG_iff.1 hk
  have hDl:=decls_len x
  have hlenC:∀ σ,keep σ (lenv Tryd.prog 23 σ (hC x))=some (i6 (↑x.consts.length:Int),σ):=fun σ=>by rw [show lenv Tryd.prog 23 σ (hC x)=_ from len_gr 23 48 Tryd.underlying23 σ _ _]; rfl
  have hlenP:∀ σ,keep σ (lenv Tryd.prog 24 σ (hP x))=some (i6 (↑x.preds.length:Int),σ):=fun σ=>by rw [show lenv Tryd.prog 24 σ (hP x)=_ from len_gr 24 37 Tryd.underlying24 σ _ _]; rfl
  cases h1:((↑l.length:Int) == 2) with
  | false =>
    have hcd:sortC x l=false:=by unfold sortC; rw [h1]; rfl
    exact chk6 hX hc (l:=l) (d:=d) (b:=false) (f39_R6_f o0 o1 o2 _ _ _ _ n _ l d X call 0 h1) (by kernel_rfl) rfl (by kernel_rfl) (fun h=>by cases h) fun _=>hRP hcd _ _ ⟨rfl,_,rfl⟩
  | true =>
  have hl2:l.length=2:=by have:=eq_of_beq h1; omega
  cases h2:(IntKind.wrap .i64 ((↑x.consts.length:Int) + (↑x.preds.length:Int)) == 0) with
  | false =>
    have hcd:sortC x l=false:=by unfold sortC; rw [h1,h2]; rfl
    exact chk6 hX hc (l:=l) (d:=d) (b:=false) (f39_R6_tf o0 o1 o2 _ _ _ _ n _ l d X call 0 _ _ h1 (hlenC _) (hlenP _) h2) (by kernel_rfl) rfl (by kernel_rfl) (fun h=>by cases h) fun _=>hRP hcd _ _ ⟨rfl,_,rfl⟩
  | true =>
  have hz : x.consts.length = 0 ∧ x.preds.length = 0 := by
    have:=eq_of_beq h2
    rw [IntKind.wrap_i64] at this
    omega
  have hcall:=h57 (lay x o0 o1 o2 n) 3 (declsOf x) (nS l 1) (.agg [st kSort,.list .nil 0 0 []]) ⟨kSort,[]⟩ dec_sort rfl rfl (by omega) (hw 1) (Nat.zero_le _)
  cases h3:declB (declsOf x) (nS l 1) ⟨kSort,[]⟩ with
  | false =>
    have hcd:sortC x l=false:=by unfold sortC; rw [h1,h2,h3]; rfl
    rw [h3,show declM (declsOf x) (nS l 1) ⟨kSort,[]⟩=declsOf x from if_neg (by rw [h3]; simp)] at hcall
    exact chk6 hX hc (l:=l) (d:=d) (b:=false) (f39_R6_ttf o0 o1 o2 _ _ _ _ n _ l d X call 0 _ _ (nS l 1) (tS l 1) _ _ h1 (hlenC _) (hlenP _) h2 (hat_of 1 (by omega) _) hcall rfl) (by kernel_rfl) rfl (by kernel_rfl) (fun h=>by cases h) fun _=>hRP hcd _ _ ⟨rfl,_,rfl⟩
  | true =>
    have hcd:sortC x l=true:=by unfold sortC; rw [h1,h2,h3]; rfl
    rw [h3,declM_true h3] at hcall
    have hc0:x.consts=[]:=List.eq_nil_of_length_eq_zero hz.1
    have hp0:x.preds=[]:=List.eq_nil_of_length_eq_zero hz.2
    refine chk6 hX hc (l:=l) (d:=d) (b:=true) (f39_R6_ttt o0 o1 o2 _ _ _ _ n _ l d X call 0 _ _ (nS l 1) (tS l 1) _ _ h1 (hlenC _) (hlenP _) h2 (hat_of 1 (by omega) _) hcall rfl) (by kernel_rfl) rfl (by kernel_rfl) (fun _ => ?_) (fun h=>by cases h)
    refine SP.last hX hc (f39_R7_ o0 o1 o2 _ _ _ _ n _ l d 5 (x.sorts.length + 1) _ X call 0 (nS l 1) (tS l 1) (hat_of 1 (by omega) _) (add_sort hns hz.1 hz.2)) (by kernel_rfl) (hR hcd _ _ ⟨rfl,?_⟩)
    unfold lay
    rw [decls_add_sort hc0 hp0]
    have e1:hS { x with sorts:=x.sorts ++ [nS l 1] } = .own 5 (x.sorts.length + 1):=by unfold hS; rw [grV_own (len1 _ _),List.length_append]; rfl
    have e2:hC { x with sorts:=x.sorts ++ [nS l 1] }=hC x:=by unfold hC grV; rw [if_pos hz.1,if_pos hz.1]
    have e3:hP { x with sorts:=x.sorts ++ [nS l 1] }=hP x:=by unfold hP grV; rw [if_pos hz.2,if_pos hz.2]
    rw [e1,e2,e3]
    rfl
theorem read_con (hX:ExtOk Tryd.prog X) (hc:CallOk Tryd.prog call) {d:Dcl} (hd:d=⟨nS l 0,l.drop 2⟩) (hkind:nS l 0=kCon) (hln:l.length ≤ 10000000) (hk:okG x=true) (h57:H57 (bareX X) call) (hw:∀ i,(nS l i).size ≤ 10000000) {R:Ex→St→Prop} {RP:Value→St→Prop}
    (hR:conC x l=true→∀ e T,Good { x with consts:=x.consts ++ [⟨nS l 1,nS l 2⟩] } o0 o1 o2 n e T→R e T) (hRP:conC x l=false→∀ v T,Bad o0 o1 o2 n v T→RP v T) :
    SP Tryd.prog 0 [] (.seq (.region 9 (opsR (regN Tryd.f39 9)) true) (regN Tryd.f39 10)) (KS l d (lay x o0 o1 o2 n)) R RP:=by
  obtain ⟨hns,hnc,hnp,hss,hcc,hpp⟩:=okG_iff.1 hk
  have hDl:=decls_len x
  have hlenP:∀ σ,keep σ (lenv Tryd.prog 24 σ (hP x))=some (i6 (↑x.preds.length:Int),σ):=fun σ=>by rw [show lenv Tryd.prog 24 σ (hP x)=_ from len_gr 24 37 Tryd.underlying24 σ _ _]; rfl
  cases h1:((↑l.length:Int) == 3) with
  | false =>
    have hcd:conC x l=false:=by unfold conC; rw [h1]; rfl
    exact chk9 hX hc (l:=l) (d:=d) (b:=false) (f39_R9_f o0 o1 o2 _ _ _ _ n _ l d X call 0 h1) (by kernel_rfl) rfl (by kernel_rfl) (fun h=>by cases h) fun _=>hRP hcd _ _ ⟨rfl,_,rfl⟩
  | true =>
  have hl3:l.length=3:=by have:=eq_of_beq h1; omega
  cases h2:((↑x.preds.length:Int) == 0) with
  | false =>
    have hcd:conC x l=false:=by unfold conC; rw [h1,h2]; rfl
    exact chk9 hX hc (l:=l) (d:=d) (b:=false) (f39_R9_tf o0 o1 o2 _ _ _ _ n _ l d X call 0 _ h1 (hlenP _) h2) (by kernel_rfl) rfl (by kernel_rfl) (fun h=>by cases h) fun _=>hRP hcd _ _ ⟨rfl,_,rfl⟩
  | true =>
  have hz:x.preds.length=0:=by have:=eq_of_beq h2; omega
  have hdec : aD.dec (.agg [st d.kind, strsV d.sorts]) = some d := by
    have:=aD.de d
    rwa [aD_enc] at this
  have hsl:d.sorts.length ≤ 10000000:=by rw [hd]; show (l.drop 2).length ≤ 10000000; rw [List.length_drop]; omega
  have hcall:=h57 (lay x o0 o1 o2 n) 3 (declsOf x) (nS l 1) (.agg [st d.kind,strsV d.sorts]) d hdec (by simp [AV.owns,AV.ownsAll,strsV,owns_strs]) rfl (by omega) (hw 1) hsl
  cases h3:declB (declsOf x) (nS l 1) d with
  | false =>
    have hcd:conC x l=false:=by unfold conC; rw [h1,h2,← hd,h3]; rfl
    rw [h3,show declM (declsOf x) (nS l 1) d=declsOf x from if_neg (by rw [h3]; simp)] at hcall
    exact chk9 hX hc (l:=l) (d:=d) (b:=false) (f39_R9_ttf o0 o1 o2 _ _ _ _ n _ l d X call 0 _ (nS l 1) (tS l 1) _ _ h1 (hlenP _) h2 (hat_of 1 (by omega) _) hcall rfl) (by kernel_rfl) rfl (by kernel_rfl) (fun h=>by cases h) fun _=>hRP hcd _ _ ⟨rfl,_,rfl⟩
  | true =>
    have hcd:conC x l=true:=by unfold conC; rw [h1,h2,← hd,h3]; rfl
    rw [h3,declM_true h3] at hcall
    have hp0:x.preds=[]:=List.eq_nil_of_length_eq_zero hz
    refine chk9 hX hc (l:=l) (d:=d) (b:=true) (f39_R9_ttt o0 o1 o2 _ _ _ _ n _ l d X call 0 _ (nS l 1) (tS l 1) _ _ h1 (hlenP _) h2 (hat_of 1 (by omega) _) hcall rfl) (by kernel_rfl) rfl (by kernel_rfl) (fun _ => ?_) (fun h=>by cases h)
    refine SP.last hX hc (f39_R10_ o0 o1 o2 _ _ _ _ n _ l d (5 + nz x.sorts.length) (x.consts.length + 1) _ X call 0 (nS l 1) (tS l 1) (nS l 2) (tS l 2) (hat_of 1 (by omega) _) (hat_of 2 (by omega) _) (add_con (c:=⟨nS l 1,nS l 2⟩) hnc hz)) (by kernel_rfl) (hR hcd _ _ ⟨rfl,?_⟩)
    have hdd : d = ⟨kCon, [nS l 2]⟩ := by
      rw [hd,hkind]
      congr 1
      have : l.drop 2 = [nS l 2] := by
        apply List.ext_getElem
        · simp [hl3]
        · intro i h4 h5
          simp only [List.length_cons,List.length_nil] at h5
          have:i=0:=by omega
          subst this
          simp only [List.getElem_drop,List.getElem_cons_zero]
          rw [nS,getD_lt (by omega)]
      exact this
    unfold lay
    rw [decls_add_con hp0]
    have e1:hC { x with consts:=x.consts ++ [⟨nS l 1,nS l 2⟩] } = .own (5 + nz x.sorts.length) (x.consts.length + 1):=by unfold hC; rw [grV_own (len1 _ _),List.length_append]; rfl
    have e3:hP { x with consts:=x.consts ++ [⟨nS l 1,nS l 2⟩] }=hP x:=by unfold hP grV; rw [if_pos hz,if_pos hz]
    rw [e1,e3,hdd]
    rfl
theorem read_pre (hX:ExtOk Tryd.prog X) (hc:CallOk Tryd.prog call) {d:Dcl} (hd:d=⟨nS l 0,l.drop 2⟩) (hkind:nS l 0=kPre) (h2:2 ≤ l.length) (hln:l.length ≤ 10000000) (hk:okG x=true) (h57:H57 (bareX X) call) (h48:∀ l:List ByteArray,l.length ≤ 10000000→callv X (call0 call) true 48 [strsV l] [] 0=some (strsV l,[])) (hw:∀ i,(nS l i).size ≤ 10000000) {R:Ex→St→Prop} {RP:Value→St→Prop}
    (hR:preC x l=true→∀ e T,Good { x with preds:=x.preds ++ [⟨nS l 1,l.drop 2⟩] } o0 o1 o2 n e T→R e T) (hRP:preC x l=false→∀ v T,Bad o0 o1 o2 n v T→RP v T) :
    SP Tryd.prog 0 [] (.seq (.region 12 (opsR (regN Tryd.f39 12)) true) (regN Tryd.f39 13)) (KS l d (lay x o0 o1 o2 n)) R RP:=by
  obtain ⟨hns,hnc,hnp,hss,hcc,hpp⟩:=okG_iff.1 hk
  have hDl:=decls_len x
  have hdec : aD.dec (.agg [st d.kind, strsV d.sorts]) = some d := by
    have:=aD.de d
    rwa [aD_enc] at this
  have hsl:d.sorts.length ≤ 10000000:=by rw [hd]; show (l.drop 2).length ≤ 10000000; rw [List.length_drop]; omega
  have hcall:=h57 (lay x o0 o1 o2 n) 3 (declsOf x) (nS l 1) (.agg [st d.kind,strsV d.sorts]) d hdec (by simp [AV.owns,AV.ownsAll,strsV,owns_strs]) rfl (by omega) (hw 1) hsl
  cases h3:declB (declsOf x) (nS l 1) d with
  | false =>
    have hcd:preC x l=false:=by unfold preC; rw [← hd,h3]
    rw [h3,show declM (declsOf x) (nS l 1) d=declsOf x from if_neg (by rw [h3]; simp)] at hcall
    exact chk12 hX hc (l:=l) (d:=d) (b:=false) (f39_R12_ o0 o1 o2 _ _ _ _ n _ l d X call 0 (nS l 1) (tS l 1) _ _ (hat_of 1 (by omega) _) hcall) (by kernel_rfl) rfl (by kernel_rfl) (fun h=>by cases h) fun _=>hRP hcd _ _ ⟨rfl,_,rfl⟩
  | true =>
    have hcd:preC x l=true:=by unfold preC; rw [← hd,h3]
    rw [h3,declM_true h3] at hcall
    refine chk12 hX hc (l:=l) (d:=d) (b:=true) (f39_R12_ o0 o1 o2 _ _ _ _ n _ l d X call 0 (nS l 1) (tS l 1) _ _ (hat_of 1 (by omega) _) hcall) (by kernel_rfl) rfl (by kernel_rfl) (fun _ => ?_) (fun h=>by cases h)
    have hb : bsl Tryd.prog 24 1 [] true 0 [(0, AV.agg [st (nS l 1), strsV d.sorts])] = some (AV.list .clip 1 2 [st (nS l 1), strsV d.sorts], []) := by
      unfold bsl byValue
      rw [if_pos (by simp [AV.owns,AV.ownsAll,strsV,owns_strs])]
      kernel_rfl
    have hap:=add_pre (o0:=o0) (o1:=o1) (o2:=o2) (z:=mapE (declsOf x ++ [(nS l 1,d)])) (a0:=hS x) (a1:=hC x) (n:=n) (p:=⟨nS l 1,d.sorts⟩) hnp
    refine SP.last hX hc (f39_R13_ o0 o1 o2 _ _ _ _ n _ l d (5 + nz x.sorts.length + nz x.consts.length) (x.preds.length + 1) _ X call 0 (nS l 1) (tS l 1) 1 [st (nS l 1),strsV d.sorts] .clip (hat_of 1 (by omega) _) (h48 d.sorts hsl) hb hap) (by kernel_rfl) (hR hcd _ _ ⟨rfl,?_⟩)
    have hds:d.sorts=l.drop 2:=by rw [hd]
    have hdd:d=⟨kPre,l.drop 2⟩:=by rw [hd,hkind]
    unfold lay
    rw [decls_add_pre]
    have e1:hP { x with preds:=x.preds ++ [⟨nS l 1,l.drop 2⟩] } = .own (5 + nz x.sorts.length + nz x.consts.length) (x.preds.length + 1):=by unfold hP; rw [grV_own (len1 _ _),List.length_append]; rfl
    rw [e1,hds,hdd]
    rfl
end
end Go.Proofs.Sig
end
/- Signature: read, told. -/
section
open Go Go.Vm Go.Proofs
namespace Go.Proofs.Sig
variable [Fixed]
variable {X:Ext} {call:Caller}
def Rend (x:Sgn) (line:ByteArray) (o0 o1 o2:Ob) (n:Int) (e:Ex) (T:St):Prop:=e = .normal∧∃ x',readF x line=some x' ∧ T.st=lay x' o0 o1 o2 n
def RPend (x:Sgn) (line:ByteArray) (o0 o1 o2:Ob) (n:Int) (v:Value) (T:St):Prop:=readF x line=none∧v=wrongV n∧first3 o0 o1 o2 T.st
set_option maxRecDepth 100000 in
theorem read39 (hX:ExtOk Tryd.prog X) (hc:CallOk Tryd.prog call) {x:Sgn} {line:ByteArray} {o0 o1 o2:Ob} {n:Int} (hk:okG x=true) (hline:OkLine line)
    (h59:∀ σ,callv X call false 59 [st line,st (ByteArray.mk #[32])] σ 0=some (strsV (wordsL line),σ)) (h57:H57 (bareX X) call) (h48:∀ l:List ByteArray,l.length ≤ 10000000→callv X (call0 call) true 48 [strsV l] [] 0=some (strsV l,[])) :
    CallP Tryd.prog 39 [.ref 4 0,st line] (lay x o0 o1 o2 n) 0 (fun r σ' => r = .tup []∧∃ x',readF x line=some x' ∧ σ' = lay x' o0 o1 o2 n) (fun v σ' => readF x line=none∧v=wrongV n∧first3 o0 o1 o2 σ'):=by
  have hln:(wordsL line).length ≤ 10000000:=hline.n
  have hwd:∀ i,(nS (wordsL line) i).size ≤ 10000000:=word_le hline
  refine body_P (fn:=Tryd.f39) (c:=codeOf Tryd.f39) Tryd.func39 (by kernel_rfl) (of_decide_eq_true (by kernel_rfl)) ?_
  rw [shape39]
  have main : SP Tryd.prog 0 [] (.seq (regN Tryd.f39 0) (.seq (.region 1 (opsR (regN Tryd.f39 1)) false) (.seq (.region 2 (opsR (regN Tryd.f39 2)) true) (.seq (regN Tryd.f39 3) (.block 0 (.seq (regN Tryd.f39 5) (.cond (.tmp 23)
    (.seq (.region 6 (opsR (regN Tryd.f39 6)) true) (regN Tryd.f39 7)) (.seq (regN Tryd.f39 8) (.cond (.tmp 71)
    (.seq (.region 9 (opsR (regN Tryd.f39 9)) true) (regN Tryd.f39 10)) (.seq (regN Tryd.f39 11) (.cond (.tmp 116)
    (.seq (.region 12 (opsR (regN Tryd.f39 12)) true) (regN Tryd.f39 13)) (.region 4 (opsR (regN Tryd.f39 4)) false))))))))))))
    { tmps:=[.ref 4 0,st line] ++ List.replicate (Tryd.f39.ntmps - [AV.ref 4 0,st line].length) .undef,st:=lay x o0 o1 o2 n } (Rend x line o0 o1 o2 n) (RPend x line o0 o1 o2 n):=by
    unfold Rend RPend readF
    generalize wordsL line=l at *
    refine SP.next hX hc (dK [0,4]) (f39_R0_ o0 o1 o2 _ _ _ _ n _ line l X call 0 (h59 _)) (by kernel_rfl) (S2:=K2 l (lay x o0 o1 o2 n)) (by kernel_rfl) ?_
    refine SP.checkT hX hc (dK [0, 4]) (pre := (opsR (regN Tryd.f39 1)).toList.take 4) (o := (opsR (regN Tryd.f39 1)).toList.getD 4 default) (f := 38) (b := decide ((↑l.length : Int) ≥ 2)) (v := wrongV n)
      (S1:=kst147 [(0,.ref 4 0),(4,strsV l),(8,.ref 4 0),(9,strsV l),(10,i6 (↑l.length:Int)),(11,bo (decide ((↑l.length:Int) ≥ 2)))] (lay x o0 o1 o2 n))
      (c := { callee := .value (.func 38),args := #[.tmp 8,.tmp 11],argTypes := #[56,4] }) (by kernel_rfl) (by kernel_rfl) rfl (by kernel_rfl) (by kernel_rfl) (vs:=[.ref 4 0,bo (decide ((↑l.length:Int) ≥ 2))]) (by kernel_rfl) (fail38 hX hc) (S2:=K2 l (lay x o0 o1 o2 n)) (by kernel_rfl) ?_ ?_
    rotate_left
    · intro hb
      refine ⟨?_,rfl,_,rfl⟩
      unfold readG
      rw [hb]
      rfl
    intro hb
    have h2:2 ≤ l.length:=by have:=of_decide_eq_true hb; omega
    generalize hd:(⟨nS l 0,l.drop 2⟩:Dcl)=d
    have hdk:d.kind=nS l 0:=by rw [← hd]
    refine read_box hX hc h2 hd.symm ?_
    refine SP.next hX hc (dK [0,4,5,20]) (f39_R3_ o0 o1 o2 _ _ _ _ n _ l d X call 0) (by kernel_rfl) (S2:=KS l d (lay x o0 o1 o2 n)) (by kernel_rfl) ?_
    refine SP.block ?_
    have hkk:∀ k,isK (nS l 0) k=(d.kind.toList == k.toList):=fun k=>by rw [hdk]; rfl
    cases k1:isK (nS l 0) kSort with
    | true =>
      refine SP.next hX hc (dK [0,4,5,20,23]) (f39_R5_t o0 o1 o2 _ _ _ _ n _ l d X call 0 (by rw [hkk] at k1; exact k1)) (by kernel_rfl) (S2:=kst147 [(0,.ref 4 0),(4,strsV l),(5,.eaddr [st d.kind,strsV d.sorts]),(20,st d.kind),(23,bo true)] (lay x o0 o1 o2 n)) (by kernel_rfl) ?_
      refine SP.cond (b:=true) (by kernel_rfl) ?_
      refine SP.forget (dK [0,4,5,20]) ?_
      have hf:Vm.forget (dK [0,4,5,20]) (kst147 [(0,.ref 4 0),(4,strsV l),(5,.eaddr [st d.kind,strsV d.sorts]),(20,st d.kind),(23,bo true)] (lay x o0 o1 o2 n))=KS l d (lay x o0 o1 o2 n):=by kernel_rfl
      rw [hf]
      refine read_sort hX hc hk h57 hwd (fun hcd e T h => ?_) (fun hcd v T h => ?_)
      · obtain ⟨rfl, h⟩ := h
        refine ⟨rfl,_,?_,h⟩
        unfold readG
        unfold sortC at hcd
        rw [hb,k1,hcd]
        rfl
      · refine ⟨?_, h.1, h.2⟩
        unfold readG
        unfold sortC at hcd
        rw [hb,k1,hcd]
        rfl
    | false =>
    refine SP.next hX hc (dK [0,4,5,20,23]) (f39_R5_f o0 o1 o2 _ _ _ _ n _ l d X call 0 (by rw [hkk] at k1; exact k1)) (by kernel_rfl) (S2:=kst147 [(0,.ref 4 0),(4,strsV l),(5,.eaddr [st d.kind,strsV d.sorts]),(20,st d.kind),(23,bo false)] (lay x o0 o1 o2 n)) (by kernel_rfl) ?_
    refine SP.cond (b:=false) (by kernel_rfl) ?_
    refine SP.forget (dK [0,4,5,20]) ?_
    have hf:Vm.forget (dK [0,4,5,20]) (kst147 [(0,.ref 4 0),(4,strsV l),(5,.eaddr [st d.kind,strsV d.sorts]),(20,st d.kind),(23,bo false)] (lay x o0 o1 o2 n))=KS l d (lay x o0 o1 o2 n):=by kernel_rfl
    rw [hf]
    cases k2:isK (nS l 0) kCon with
    | true =>
      refine SP.next hX hc (dK [0,4,5,20,71]) (f39_R8_t o0 o1 o2 _ _ _ _ n _ l d X call 0 (by rw [hkk] at k2; exact k2)) (by kernel_rfl) (S2:=kst147 [(0,.ref 4 0),(4,strsV l),(5,.eaddr [st d.kind,strsV d.sorts]),(20,st d.kind),(71,bo true)] (lay x o0 o1 o2 n)) (by kernel_rfl) ?_
      refine SP.cond (b:=true) (by kernel_rfl) ?_
      refine SP.forget (dK [0,4,5,20]) ?_
      have hf:Vm.forget (dK [0,4,5,20]) (kst147 [(0,.ref 4 0),(4,strsV l),(5,.eaddr [st d.kind,strsV d.sorts]),(20,st d.kind),(71,bo true)] (lay x o0 o1 o2 n))=KS l d (lay x o0 o1 o2 n):=by kernel_rfl
      rw [hf]
      refine read_con hX hc hd.symm (isK_iff.1 k2) hln hk h57 hwd (fun hcd e T h => ?_) (fun hcd v T h => ?_)
      · obtain ⟨rfl, h⟩ := h
        refine ⟨rfl,_,?_,h⟩
        unfold readG
        unfold conC at hcd
        rw [hb,k1,k2,hcd]
        rfl
      · refine ⟨?_, h.1, h.2⟩
        unfold readG
        unfold conC at hcd
        rw [hb,k1,k2,hcd]
        rfl
    | false =>
    refine SP.next hX hc (dK [0,4,5,20,71]) (f39_R8_f o0 o1 o2 _ _ _ _ n _ l d X call 0 (by rw [hkk] at k2; exact k2)) (by kernel_rfl) (S2:=kst147 [(0,.ref 4 0),(4,strsV l),(5,.eaddr [st d.kind,strsV d.sorts]),(20,st d.kind),(71,bo false)] (lay x o0 o1 o2 n)) (by kernel_rfl) ?_
    refine SP.cond (b:=false) (by kernel_rfl) ?_
    refine SP.forget (dK [0,4,5,20]) ?_
    have hf:Vm.forget (dK [0,4,5,20]) (kst147 [(0,.ref 4 0),(4,strsV l),(5,.eaddr [st d.kind,strsV d.sorts]),(20,st d.kind),(71,bo false)] (lay x o0 o1 o2 n))=KS l d (lay x o0 o1 o2 n):=by kernel_rfl
    rw [hf]
    cases k3:isK (nS l 0) kPre with
    | true =>
      refine SP.next hX hc (dK [0,4,5,20,116]) (f39_R11_t o0 o1 o2 _ _ _ _ n _ l d X call 0 (by rw [hkk] at k3; exact k3)) (by kernel_rfl) (S2:=kst147 [(0,.ref 4 0),(4,strsV l),(5,.eaddr [st d.kind,strsV d.sorts]),(20,st d.kind),(116,bo true)] (lay x o0 o1 o2 n)) (by kernel_rfl) ?_
      refine SP.cond (b:=true) (by kernel_rfl) ?_
      refine SP.forget (dK [0,4,5,20]) ?_
      have hf:Vm.forget (dK [0,4,5,20]) (kst147 [(0,.ref 4 0),(4,strsV l),(5,.eaddr [st d.kind,strsV d.sorts]),(20,st d.kind),(116,bo true)] (lay x o0 o1 o2 n))=KS l d (lay x o0 o1 o2 n):=by kernel_rfl
      rw [hf]
      refine read_pre hX hc hd.symm (isK_iff.1 k3) h2 hln hk h57 h48 hwd (fun hcd e T h => ?_) (fun hcd v T h => ?_)
      · obtain ⟨rfl, h⟩ := h
        refine ⟨rfl,_,?_,h⟩
        unfold readG
        unfold preC at hcd
        rw [hb,k1,k2,k3,hcd]
        rfl
      · refine ⟨?_, h.1, h.2⟩
        unfold readG
        unfold preC at hcd
        rw [hb,k1,k2,k3,hcd]
        rfl
    | false =>
    refine SP.next hX hc (dK [0,4,5,20,116]) (f39_R11_f o0 o1 o2 _ _ _ _ n _ l d X call 0 (by rw [hkk] at k3; exact k3)) (by kernel_rfl) (S2:=kst147 [(0,.ref 4 0),(4,strsV l),(5,.eaddr [st d.kind,strsV d.sorts]),(20,st d.kind),(116,bo false)] (lay x o0 o1 o2 n)) (by kernel_rfl) ?_
    refine SP.cond (b:=false) (by kernel_rfl) ?_
    refine SP.forget (dK [0,4,5,20]) ?_
    have hf:Vm.forget (dK [0,4,5,20]) (kst147 [(0,.ref 4 0),(4,strsV l),(5,.eaddr [st d.kind,strsV d.sorts]),(20,st d.kind),(116,bo false)] (lay x o0 o1 o2 n))=KS l d (lay x o0 o1 o2 n):=by kernel_rfl
    rw [hf]
    show SP Tryd.prog 0 [] (.region 4 (opsR (regN Tryd.f39 4)) false) _ _ _
    refine SP.call hX hc (pre := (opsR (regN Tryd.f39 4)).toList.take 1) (o := (opsR (regN Tryd.f39 4)).toList.getD 1 default) (post := []) (f := 38) (caps := []) (vs := [.ref 4 0, bo false])
      (S1:=kst147 [(0,.ref 4 0),(4,strsV l),(5,.eaddr [st d.kind,strsV d.sorts]),(20,st d.kind),(21,.ref 4 0)] (lay x o0 o1 o2 n))
      (c := { callee := .value (.func 38),args := #[.tmp 21,.const (.bool false)],argTypes := #[56,4] }) (g := .func 38) (by kernel_rfl) (by kernel_rfl) (by kernel_rfl) rfl (by kernel_rfl) rfl (by kernel_rfl) (fail38 hX hc) ?_ ?_
    · rintro r σ' ⟨h, _⟩
      cases h
    · rintro v σ' ⟨_, rfl, rfl⟩
      refine ⟨?_,rfl,_,rfl⟩
      unfold readG
      rw [hb,k1,k2,k3]
      rfl
  refine main.mono ?_ ?_
  · rintro e T ⟨rfl, x', h1, h2⟩
    refine ⟨.inl rfl,.tup [],T.st,?_,rfl,x',h1,h2⟩
    unfold vend
    have hr:resultsv Tryd.prog T Tryd.f39.results.toList=some []:=by rw [Tryd.results39]; rfl
    rw [hr]
    rfl
  · rintro v T h
    exact h
end Go.Proofs.Sig
end
/- Signature: Parse, piece by piece (printed) -/
section
open Go Go.Vm Go.Proofs
namespace Go.Proofs.Sig
theorem f16_R3_t (o0 o1 o2:Ob)(z:List (AV × AV))(a0 a1 a2:AV)(n4:Int) (τ:List Ob)(s0:ByteArray)(X:Ext)(call:Caller)(lf:Nat)
 (h0:(!ByteArray.toList s0 == ByteArray.toList (ByteArray.mk #[]))=true) :
    vexec Tryd.prog X call lf 0 noFg (regN Tryd.f16 3) (kst39 [(0,st s0),(2,AV.ref 0 0),(3,AV.ref 1 0),(4,AV.ref 2 0),(5,AV.ref 4 0)] (pB o0 o1 o2 z (a0) (a1) (a2) n4 τ))=some (Ex.normal,kst39 [(0,st s0),(2,AV.ref 0 0),(3,AV.ref 1 0),(4,AV.ref 2 0),(5,AV.ref 4 0),(13,st s0),(14,bo true)] (pB o0 o1 o2 z (a0) (a1) (a2) n4 τ)) :=
  around_sound (ans:=[(2,Ans.b true)]) (by kernel_rfl) (ai h0 trivial)
theorem f16_R3_f (o0 o1 o2:Ob)(z:List (AV × AV))(a0 a1 a2:AV)(n4:Int) (τ:List Ob)(s0:ByteArray)(X:Ext)(call:Caller)(lf:Nat)
 (h0:(!ByteArray.toList s0 == ByteArray.toList (ByteArray.mk #[]))=false) :
    vexec Tryd.prog X call lf 0 noFg (regN Tryd.f16 3) (kst39 [(0,st s0),(2,AV.ref 0 0),(3,AV.ref 1 0),(4,AV.ref 2 0),(5,AV.ref 4 0)] (pB o0 o1 o2 z (a0) (a1) (a2) n4 τ))=some (Ex.normal,kst39 [(0,st s0),(2,AV.ref 0 0),(3,AV.ref 1 0),(4,AV.ref 2 0),(5,AV.ref 4 0),(13,st s0),(14,bo false)] (pB o0 o1 o2 z (a0) (a1) (a2) n4 τ)) :=
  around_sound (ans:=[(2,Ans.b false)]) (by kernel_rfl) (ai h0 trivial)
theorem f16_R4_ (o0 o1 o2:Ob)(z:List (AV × AV))(a0 a1 a2:AV)(n4:Int) (τ:List Ob)(s0:ByteArray)(X:Ext)(call:Caller)(lf:Nat) :
    vexec Tryd.prog X call lf 0 noFg (regN Tryd.f16 4) (kst39 [(0,st s0),(2,AV.ref 0 0),(3,AV.ref 1 0),(4,AV.ref 2 0),(5,AV.ref 4 0)] (pB o0 o1 o2 z (a0) (a1) (a2) n4 τ))=some (Ex.normal,kst39 [(0,st s0),(2,AV.ref 0 0),(3,AV.ref 1 0),(4,AV.ref 2 0),(5,AV.ref 4 0),(15,AV.ref 4 0),(16,AV.ref 4 0),(17,AV.ref 4 4),(18,i6 n4),(19,i6 (IntKind.wrap IntKind.i64 (n4 + 1))),(20,AV.ref 4 0),(21,AV.ref 4 4)] (o0::o1::o2::Ob.mapo z::Ob.cells [a0,a1,a2,AV.map 3,i6 (IntKind.wrap IntKind.i64 (n4 + 1))]::τ)) :=
  around_sound (ans:=[]) (by kernel_rfl) trivial
theorem f16_R5_t (o0 o1 o2:Ob)(z:List (AV × AV))(a0 a1 a2:AV)(n4:Int) (τ:List Ob)(s0 s1 s2:ByteArray)(b1:Bool)(X:Ext)(call:Caller)(lf:Nat)
 (h0:callv X call false 37 [st s0,st (ByteArray.mk #[10])] (pB o0 o1 o2 z (a0) (a1) (a2) n4 τ) 0=some (AV.tup [st s1,st s2,bo b1],pB o0 o1 o2 z (a0) (a1) (a2) n4 τ))
 (h1:b1=true) :
    vexec Tryd.prog X call lf 0 noFg (regN Tryd.f16 5) (kst39 [(0,st s0),(2,AV.ref 0 0),(3,AV.ref 1 0),(4,AV.ref 2 0),(5,AV.ref 4 0)] (pB o0 o1 o2 z (a0) (a1) (a2) n4 τ))=some (Ex.normal,kst39 [(0,st s0),(2,AV.ref 0 0),(3,AV.ref 1 0),(4,AV.ref 2 0),(5,AV.ref 4 0),(6,st s1),(7,st s2),(8,bo true),(22,AV.tup [st s1,st s2,bo b1]),(23,st s0),(24,AV.tup [st s1,st s2,bo b1]),(25,st s1),(26,st s2),(27,bo true)] (pB o0 o1 o2 z (a0) (a1) (a2) n4 τ)) :=
  around_sound (ans:=[(2,Ans.v (AV.tup [st s1,st s2,bo b1])),(6,Ans.b true)]) (by kernel_rfl) (ai h0 (ai h1 trivial))
theorem f16_R5_f (o0 o1 o2:Ob)(z:List (AV × AV))(a0 a1 a2:AV)(n4:Int) (τ:List Ob)(s0 s1 s2:ByteArray)(b1:Bool)(X:Ext)(call:Caller)(lf:Nat)
 (h0:callv X call false 37 [st s0,st (ByteArray.mk #[10])] (pB o0 o1 o2 z (a0) (a1) (a2) n4 τ) 0=some (AV.tup [st s1,st s2,bo b1],pB o0 o1 o2 z (a0) (a1) (a2) n4 τ))
 (h1:b1=false) :
    vexec Tryd.prog X call lf 0 noFg (regN Tryd.f16 5) (kst39 [(0,st s0),(2,AV.ref 0 0),(3,AV.ref 1 0),(4,AV.ref 2 0),(5,AV.ref 4 0)] (pB o0 o1 o2 z (a0) (a1) (a2) n4 τ))=some (Ex.normal,kst39 [(0,st s0),(2,AV.ref 0 0),(3,AV.ref 1 0),(4,AV.ref 2 0),(5,AV.ref 4 0),(6,st s1),(7,st s2),(8,bo false),(22,AV.tup [st s1,st s2,bo b1]),(23,st s0),(24,AV.tup [st s1,st s2,bo b1]),(25,st s1),(26,st s2),(27,bo false)] (pB o0 o1 o2 z (a0) (a1) (a2) n4 τ)) :=
  around_sound (ans:=[(2,Ans.v (AV.tup [st s1,st s2,bo b1])),(6,Ans.b false)]) (by kernel_rfl) (ai h0 (ai h1 trivial))
theorem f16_R8_ (o0 o1 o2:Ob)(z:List (AV × AV))(a0 a1 a2:AV)(n4:Int) (τ:List Ob)(s0 s7:ByteArray)(X:Ext)(call:Caller)(lf:Nat) :
    vexec Tryd.prog X call lf 0 noFg (regN Tryd.f16 8) (kst39 [(0,st s0),(2,AV.ref 0 0),(3,AV.ref 1 0),(4,AV.ref 2 0),(5,AV.ref 4 0),(7,st s7)] (pB o0 o1 o2 z (a0) (a1) (a2) n4 τ))=some (Ex.normal,kst39 [(0,st s7),(2,AV.ref 0 0),(3,AV.ref 1 0),(4,AV.ref 2 0),(5,AV.ref 4 0),(7,st s7),(34,st s7)] (pB o0 o1 o2 z (a0) (a1) (a2) n4 τ)) :=
  around_sound (ans:=[]) (by kernel_rfl) trivial
/-- A handle of a row. -/
def isH (a:AV):Prop:=a = .list .nil 0 0 [] ∨ ∃ i n,a = .own i n
theorem f16_R9_ (c0 c1 c2 c3 c4:AV)(z:List (AV × AV))(a0 a1 a2:AV)(n4:Int) (τ:List Ob)(s0:ByteArray)(X:Ext)(call:Caller)(lf:Nat)(h0:isH a0)(h1:isH a1)(h2:isH a2) :
    vexec Tryd.prog X call lf 0 noFg (regN Tryd.f16 9) (kst39 [(0,st s0),(2,AV.ref 0 0),(3,AV.ref 1 0),(4,AV.ref 2 0),(5,AV.ref 4 0)] (Ob.cells [c0,c1,c2]::Ob.cells [c3]::Ob.cells [c4]::Ob.mapo z::Ob.cells [a0,a1,a2,AV.map 3,i6 n4]::τ))=some (Ex.normal,kst39 [(0,st s0),(2,AV.ref 0 0),(3,AV.ref 1 0),(4,AV.ref 2 0),(5,AV.ref 4 0),(35,AV.ref 4 0),(36,AV.ref 4 0),(37,AV.ref 4 0),(38,AV.agg [a0,a1,a2])] (Ob.cells [a0,a1,a2]::Ob.cells [i6 0]::Ob.cells [i6 0]::Ob.mapo z::Ob.cells [a0,a1,a2,AV.map 3,i6 n4]::τ)):=by
  rcases h0 with rfl | ⟨i0,n0,rfl⟩ <;> rcases h1 with rfl | ⟨i1,n1,rfl⟩ <;> rcases h2 with rfl | ⟨i2,n2,rfl⟩ <;> kernel_rfl
end Go.Proofs.Sig
end
/- Signature: plain laws: a text cut at a byte, and joined. -/
section
open Go Go.Vm Go.Proofs
namespace Go.Proofs.Sig
abbrev blank:ByteArray:=⟨#[32]⟩
/-- A list of bytes, cut at each byte c. -/
def spl (c:UInt8):List UInt8→List (List UInt8)
  | []=>[[]]
  | b :: l => if b = c then [] :: spl c l else match spl c l with
    | []=>[[b]]
    | x::r=>(b::x)::r
theorem spl_ne (c:UInt8) (l:List UInt8):spl c l ≠ []:=by
  cases l with
  | nil=>simp [spl]
  | cons b l =>
    unfold spl
    split
    · simp
    · split <;> simp
theorem index_cons (b:UInt8) (l:List UInt8) (c:UInt8):Lib.index (b::l) [c]=if b=c then 0 else if Lib.index l [c] == -1 then -1 else Lib.index l [c] + 1:=by
  rw [Lib.index]
  by_cases h:b=c
  · subst h
    simp [List.isPrefixOf]
  · have hp : ([c] : List UInt8).isPrefixOf (b :: l) = false := by simp [List.isPrefixOf, Ne.symm h]
    rw [hp,if_neg h]
    simp
theorem index_nil (c:UInt8):Lib.index [] [c] = -1:=by
  rw [Lib.index]
  simp
theorem spl_miss {c:UInt8}:∀ {l:List UInt8},Lib.index l [c] = -1→spl c l=[l]
  | [],_=>rfl
  | b :: l, h => by
    rw [index_cons] at h
    split at h
    · cases h
    · rename_i hb
      have hl : Lib.index l [c] = -1 := by
        split at h
        · rename_i e; exact beq_iff_eq.1 e
        · have := Lib.index_ge l [c]
          omega
      unfold spl
      rw [if_neg hb,spl_miss hl]
theorem spl_hit {c:UInt8}:∀ {l:List UInt8} {i:Nat},Lib.index l [c]=i→spl c l=l.take i::spl c (l.drop (i + 1))
  | [],i,h=>by rw [index_nil] at h; omega
  | b :: l, i, h => by
    rw [index_cons] at h
    split at h
    · rename_i hb
      have:i=0:=by omega
      subst this
      show (if b=c then []::spl c l else match spl c l with | []=>[[b]] | x::r=>(b::x)::r)=_
      rw [if_pos hb]
      rfl
    · rename_i hb
      split at h
      · omega
      · rename_i e
        have hne:Lib.index l [c] ≠ -1:=fun e' => e (beq_iff_eq.2 e')
        have hge:=Lib.index_ge l [c]
        obtain ⟨j,rfl⟩:∃ j,i=j + 1:=⟨i - 1,by omega⟩
        have hl:Lib.index l [c]=j:=by omega
        have ih:=spl_hit hl
        show (if b=c then []::spl c l else match spl c l with | []=>[[b]] | x::r=>(b::x)::r)=_
        rw [if_neg hb,ih]
        rfl
theorem extract_le (s:ByteArray) (i j:Nat):(s.extract i j).size ≤ s.size:=by
  rw [ByteArray.size_extract]
  omega
theorem splitB_le (sep:ByteArray) (save:Nat):∀ (k:Nat) (s p:ByteArray),p ∈ Lib.splitB sep save k s→p.size ≤ s.size
  | 0, s, p, h => by
    simp only [Lib.splitB,List.mem_singleton] at h
    rw [h]
    exact Nat.le_refl _
  | k + 1, s, p, h => by
    unfold Lib.splitB at h
    split at h
    · simp only [List.mem_singleton] at h
      rw [h]
      exact Nat.le_refl _
    · rcases List.mem_cons.1 h with rfl | h
      · exact extract_le _ _ _
      · exact Nat.le_trans (splitB_le sep save k _ p h) (extract_le _ _ _)
theorem split_le {s p:ByteArray} (h:p ∈ splitL s blank):p.size ≤ s.size:=splitB_le _ _ _ _ _ h
theorem split_len {s:ByteArray}:(splitL s blank).length ≤ s.size + 1:=by
  have h1:(splitL s blank).length=Lib.countB s blank + 1:=Lib.splitB_all blank (by decide) 0 _ s rfl
  have h2:=Lib.countB_le blank (by decide) s.size s (Nat.le_refl _)
  omega
end Go.Proofs.Sig
end
/- Signature: the context of all walks. -/
section
open Go Go.Vm Go.Proofs
open Go.RowKit (Below)
namespace Go.Proofs.Sig
def okFn (fn : Func) : Bool := fn.name != "runtime.NumGoroutine" && (match fn.body with | some c => codeOk c | none => true)
def okFu (P:Program) (f:FuncId):Bool:=match P.funcs[f]? with | some fn=>okFn fn | none=>true
theorem okF_some {P : Program} {f : FuncId} {fn : Func} (hf : P.funcs[f]? = some fn) (h : okFu P f = true) : ¬ fn.name = "runtime.NumGoroutine" ∧ ∀ c, fn.body = some c → codeOk c = true := by
  unfold okFu at h
  rw [hf] at h
  simp only [okFn,Bool.and_eq_true,bne_iff_ne,ne_eq] at h
  refine ⟨h.1,fun c hc => ?_⟩
  have h2:=h.2
  rw [hc] at h2
  exact h2
def dom21 (f:FuncId):Bool:=Nat.blt 2 f && Nat.blt f 120
theorem dom_all:((List.range 120).all fun f => !dom21 f || okFu Tryd.prog f)=true:=by kernel_rfl
theorem dom_at {f:FuncId} (hd:dom21 f=true):okFu Tryd.prog f=true:=by
  have hlt : f < 120 := by
    unfold dom21 at hd
    rw [Bool.and_eq_true] at hd
    exact Nat.le_of_ble_eq_true hd.2
  obtain ⟨l120,hl120⟩:∃ l,List.range 120=l:=⟨_,rfl⟩
  have hmem:f ∈ l120:=hl120 ▸ List.mem_range.2 hlt
  have hall:=dom_all
  rw [hl120] at hall
  have:=List.all_eq_true.1 hall f hmem
  simpa [hd] using this
/-- The bytealg variable, as a world bears it. -/
@[reducible] def tabFix (W:World):Fixed:=⟨fun b X=>b=0∧W.heap[b]? = some X⟩
theorem cell_move {W w:World} (h:∀ b X,(tabFix W).fix b X→w.heap[b]? = some X) {o:Nat} {v:Value} (hc:W.cell? ⟨0,o,none⟩=some v):w.cell? ⟨0,o,none⟩=some v:=by
  cases hX:W.heap[0]? with
  | none=>simp [World.cell?,hX] at hc
  | some X =>
    have:=h 0 X ⟨rfl,hX⟩
    rw [← hc]
    simp only [World.cell?,hX,this]
def pure21 [Fixed] (f:FuncId):Option (List AV→Option AV):=if f=37 then some cutFn else if f=52 then some joinFn else if f=59 then some splitFn else none
def st21 (f:FuncId):Option (List AV→List Ob→Nat→Option (AV × List Ob)):=if f=54 then some (sortFn bytsO avB leB) else if f=56 then some (compFn bytsO avB) else if f=62 then some (bldCheck 76) else if f=53 then some (bldString 5) else none
def X21 [Fixed] (l:List Nat):Ext := { pureFn:=pure21,stFn:=st21,adopt:=fun f=>memN f l,dom:=dom21,fg:=fun _=>noFg }
theorem bodied {f : FuncId} {fn : Func} (hf : Tryd.prog.funcs[f]? = some fn) (h1 : fn.body.isSome = true) (h2 : decide (fn.name = "runtime.NumGoroutine") = false) : Bodied Tryd.prog f := ⟨fn, hf, h1, of_decide_eq_false h2⟩
theorem lays240:Lays.n240 Tryd.prog Tryd.laysJoin_ren := { Tryd.laysJoin with }
theorem lays169:Lays.n169 Tryd.prog Tryd.laysJoin_ren := { Tryd.laysJoin with }
theorem ext21 {W:World} {m:Int} (hM:W.cell? ⟨0,0,none⟩=some (.int .i64 m)) (l:List Nat) : @ExtOk (tabFix W) Tryd.prog (@X21 (tabFix W) l):=by
  letI:=tabFix W
  have hMw:∀ (C:Ctx) (w:World),SOk C w→∃ m,w.cell? ⟨0,0,none⟩=some (.int .i64 m):=fun C w hs=>⟨m,cell_move (fun b X h=>(hs.fx b X h).1) hM⟩
  refine ⟨by kernel_rfl,?_,?_,?_⟩
  · intro f fn hd hf
    exact okF_some hf (dom_at (by simpa only [X21] using hd))
  · intro f g hg
    simp only [X21,pure21] at hg
    split at hg
    · rename_i e
      subst e
      simp only [Option.some.injEq] at hg
      subst hg
      exact ⟨bodied Tryd.func37 (by kernel_rfl) (by kernel_rfl),pure37 hMw⟩
    split at hg
    · rename_i e
      subst e
      simp only [Option.some.injEq] at hg
      subst hg
      exact ⟨bodied Tryd.func52 (by kernel_rfl) (by kernel_rfl),pure52⟩
    split at hg
    · rename_i e
      subst e
      simp only [Option.some.injEq] at hg
      subst hg
      exact ⟨bodied Tryd.func59 (by kernel_rfl) (by kernel_rfl),pure59 hMw⟩
    · cases hg
  · intro f g hg
    simp only [X21,st21] at hg
    split at hg
    · rename_i e
      subst e
      simp only [Option.some.injEq] at hg
      subst hg
      exact ⟨bodied Tryd.func54 (by kernel_rfl) (by kernel_rfl),sort_st plainS bytsO_eq (fun blk cap zs w h1 h2 h3=>Any.slices_Sort_string Tryd.laysSortS blk 0 cap zs w h1 h2 h3) (fun p cap w=>Any.slices_Sort_string_none Tryd.laysSortS p cap w)⟩
    split at hg
    · rename_i e
      subst e
      simp only [Option.some.injEq] at hg
      subst hg
      exact ⟨bodied Tryd.func56 (by kernel_rfl) (by kernel_rfl),comp_st plainS bytsO_eq [] compact_le (fun blk cap zs w h1 h2 h3=>Any.slices_Compact_string Tryd.laysCompS blk 0 cap zs w h1 h2 h3) (fun p cap w=>Any.slices_Compact_string_empty Tryd.laysCompS p cap w)⟩
    split at hg
    · rename_i e
      subst e
      simp only [Option.some.injEq] at hg
      subst hg
      exact ⟨bodied Tryd.func62 (by kernel_rfl) (by kernel_rfl),bldCheck_st (fun b w h=>Any.Builder_copyCheck_used lays240 Tryd.joinExtra.toX72 b w h) (fun b w h1 h2 h3=>Any.Builder_copyCheck_fresh lays240 Tryd.joinExtra.toX72 b w h1 h2 h3)⟩
    split at hg
    · rename_i e
      subst e
      simp only [Option.some.injEq] at hg
      subst hg
      exact ⟨bodied Tryd.func53 (by kernel_rfl) (by kernel_rfl),bldString_st (T:=76) (fun b p t w h=>bld_string_nil lays169 Tryd.joinExtra b p t w h) (fun b g cap p t cur l w h0 h1 h2 h3 h4 h5 h6=>bld_string lays169 Tryd.joinExtra b g cap p t cur l w h0 h1 h2 h3 h4 h5 h6)⟩
    · cases hg
/-- Which functions are walked. -/
def sigW (f:FuncId):Bool:=Nat.blt 2 f && Nat.blt f 115 && !(f == 37 || f == 52 || f == 59 || f == 54 || f == 56 || f == 62 || f == 53)
structure XS [Fixed] (X:Ext):Prop where
  ok:∀ f,sigW f=true→X.pureFn f=none∧X.stFn f=none
  dom:∀ f,Nat.blt 2 f=true→Nat.blt f 115=true→X.dom f=true
  fg:∀ f,X.fg f=noFg
  cut:X.pureFn 37=some cutFn
  join:X.pureFn 52=some joinFn
  split:X.pureFn 59=some splitFn
  sort:X.pureFn 54=none∧X.stFn 54=some (sortFn bytsO avB leB)
  comp:X.pureFn 56=none∧X.stFn 56=some (compFn bytsO avB)
  chk:X.pureFn 62=none∧X.stFn 62=some (bldCheck 76)
  str:X.pureFn 53=none∧X.stFn 53=some (bldString 5)
theorem xs21 [Fixed] (l:List Nat):XS (X21 l):=by
  refine ⟨fun f hf => ?_,fun f h1 h2 => ?_,fun f=>rfl,rfl,rfl,rfl,⟨rfl,rfl⟩,⟨rfl,rfl⟩,⟨rfl,rfl⟩,⟨rfl,rfl⟩⟩
  · have hn : f ≠ 37 ∧ f ≠ 52 ∧ f ≠ 59 ∧ f ≠ 54 ∧ f ≠ 56 ∧ f ≠ 62 ∧ f ≠ 53 := by
      refine ⟨?_,?_,?_,?_,?_,?_,?_⟩ <;> (rintro rfl; revert hf; decide)
    obtain ⟨h1,h2,h3,h4,h5,h6,h7⟩:=hn
    refine ⟨?_,?_⟩
    · simp only [X21,pure21,h1,h2,h3,if_false]
    · simp only [X21,st21,h4,h5,h6,h7,if_false]
  · have h3 : f < 115 := Nat.le_of_ble_eq_true h2
    have h4 : Nat.blt f 120 = true := by
      have:f < 120:=by omega
      simpa using this
    simp only [X21,dom21,h1,h4,Bool.and_self]
end Go.Proofs.Sig
end
/- Signature: Parse in plain words; what its loop keeps. -/
section
open Go Go.Vm Go.Proofs
namespace Go.Proofs.Sig
def bytesB (l:List UInt8):ByteArray:=⟨l.toArray⟩
def eG:Sgn:=⟨[],[],[]⟩
abbrev nl:ByteArray:=⟨#[10]⟩
/-- Line by line: the last piece must be empty. -/
def parseLs (x:Sgn) (n:Nat):List (List UInt8)→Sgn × Int × Int
  | []=>(eG,0,0)
  | [last]=>if last=[] then (x,0,0) else (eG,((↑(n + 1):Int)),3)
  | l :: m :: rest => match readF x (bytesB l) with
    | some x' => parseLs x' (n + 1) (m::rest)
    | none=>(eG,((↑(n + 1):Int)),3)
def parseF (t:ByteArray):Sgn × Int × Int:=parseLs eG 0 (spl 10 t.data.toList)
def mega:Nat:=1000000
structure OkP (x:Sgn) (n:Nat):Prop where
  n:x.sorts.length + x.consts.length + x.preds.length ≤ n
  s:∀ s ∈ x.sorts,s.size ≤ mega
  c:∀ c ∈ x.consts,c.name.size ≤ mega∧c.sort.size ≤ mega
  p:∀ p ∈ x.preds,p.name.size ≤ mega∧p.args.length ≤ mega∧∀ a ∈ p.args,a.size ≤ mega
theorem okP_ok {x:Sgn} {n:Nat} (h:OkP x n) (hn:n ≤ mega):okG x=true:=by
  have h1:=h.n
  have h2:mega=1000000:=rfl
  exact okG_iff.2 ⟨by omega,by omega,by omega,h.s,h.c,h.p⟩
theorem word_small {line:ByteArray} (i:Nat):(nS (wordsL line) i).size ≤ line.size:=by
  by_cases hi:i < (wordsL line).length
  · rw [nS,getD_lt hi]; exact split_le (List.getElem_mem hi)
  · rw [nS, List.getD_eq_getElem?_getD, List.getElem?_eq_none (by omega)]
    show (0:Nat) ≤ _
    omega
theorem okLine_of {line:ByteArray} (h:line.size ≤ mega):OkLine line:=by
  have h2:mega=1000000:=rfl
  refine ⟨?_,fun s hs => ?_⟩
  · have : (wordsL line).length ≤ line.size + 1 := split_len
    omega
  · have : s.size ≤ line.size := split_le hs
    omega
theorem readF_ok {x x' : Sgn} {n:Nat} {line:ByteArray} (h:readF x line=some x') (hx:OkP x n) (hl:line.size < mega):OkP x' (n + 1):=by
  obtain ⟨hn,hs,hc,hp⟩:=hx
  have hw:∀ i,(nS (wordsL line) i).size ≤ mega:=fun i=>Nat.le_trans (word_small i) (by omega)
  have hlen:(wordsL line).length ≤ line.size + 1:=split_len
  have hm:∀ a ∈ (wordsL line).drop 2,a.size ≤ mega:=fun a ha=>Nat.le_trans (split_le (List.mem_of_mem_drop ha)) (by omega)
  unfold readF readG at h
  split at h
  · split at h
    · split at h
      · simp only [Option.some.injEq] at h
        subst h
        refine ⟨?_,fun s h => ?_,hc,hp⟩
        · simp only [List.length_append,List.length_cons,List.length_nil]; omega
        · rcases List.mem_append.1 h with h | h
          · exact hs s h
          · rw [List.mem_singleton.1 h]; exact hw 1
      · cases h
    · split at h
      · split at h
        · simp only [Option.some.injEq] at h
          subst h
          refine ⟨?_,hs,fun c h => ?_,hp⟩
          · simp only [List.length_append,List.length_cons,List.length_nil]; omega
          · rcases List.mem_append.1 h with h | h
            · exact hc c h
            · rw [List.mem_singleton.1 h]; exact ⟨hw 1,hw 2⟩
        · cases h
      · split at h
        · split at h
          · simp only [Option.some.injEq] at h
            subst h
            refine ⟨?_,hs,hc,fun p h => ?_⟩
            · simp only [List.length_append,List.length_cons,List.length_nil]; omega
            · rcases List.mem_append.1 h with h | h
              · exact hp p h
              · rw [List.mem_singleton.1 h]
                refine ⟨hw 1,?_,hm⟩
                show ((wordsL line).drop 2).length ≤ mega
                rw [List.length_drop]
                omega
          · cases h
        · cases h
  · cases h
section
variable [Fixed] {X:Ext}
theorem cut37 (hM:XS X) {call:Caller} {s:ByteArray} (hs:s.size < lim) (σ:List Ob):callv X call false 37 [st s,st nl] σ 0=some (.tup [st (bytesB (Lib.cut s.data.toList [10]).1),st (bytesB (Lib.cut s.data.toList [10]).2.1),bo (Lib.cut s.data.toList [10]).2.2],σ):=by
  refine call_pure hM.cut rfl rfl rfl ?_
  unfold cutFn
  simp only
  rw [if_pos hs]
  rfl
theorem split59 (hM:XS X) {call:Caller} {s:ByteArray} (hs:s.size < lim) (σ:List Ob):callv X call false 59 [st s,st (ByteArray.mk #[32])] σ 0=some (strsV (wordsL s),σ):=by
  refine call_pure hM.split rfl rfl rfl ?_
  unfold splitFn
  simp only
  rw [if_pos ⟨hs,by decide⟩]
  rfl
end
/-- A text, cut at its first end of a line. -/
theorem cut_cases (s:ByteArray):(Lib.cut s.data.toList [10]=(s.data.toList,[],false)∧spl 10 s.data.toList=[s.data.toList]) ∨
    ∃ l rest,Lib.cut s.data.toList [10]=(l,rest,true)∧spl 10 s.data.toList=l::spl 10 rest∧l.length + rest.length + 1=s.size:=by
  have hsz:s.data.toList.length=s.size:=by simp
  rcases Lib.indexB_cases s nl with h | ⟨i,h,hroom⟩
  · left
    have h' : Lib.index s.data.toList [10] = -1:=h
    refine ⟨?_,spl_miss h'⟩
    unfold Lib.cut
    rw [h',if_neg (by omega)]
  · right
    have h' : Lib.index s.data.toList [10]=i:=h
    have hr:i + 1 ≤ s.size:=hroom
    refine ⟨s.data.toList.take i,s.data.toList.drop (i + 1),?_,spl_hit h',?_⟩
    · unfold Lib.cut
      rw [h',if_pos (by omega)]
      rfl
    · rw [List.length_take, List.length_drop, hsz]
      omega
theorem bytesB_size (l:List UInt8):(bytesB l).size=l.length:=by show l.toArray.size=_; simp
theorem nth_forget [Fixed]:∀ {D:List Nat} {l:List AV} {t:Nat},memN t D=false→nth (forgetT D l) t=nth l t
  | [],_,_,_=>rfl
  | d :: D, l, t, h => by
    unfold memN at h
    split at h
    · cases h
    · rename_i hne
      show nth (forgetT D (setN l d .any)) t=_
      rw [nth_forget h,nth_setN,if_neg]
      rintro ⟨rfl,_⟩
      exact hne (Nat.beq_refl _)
end Go.Proofs.Sig
end
/- Signature: Parse, walked. -/
section
open Go Go.Vm Go.Proofs
namespace Go.Proofs.Sig
variable [Fixed] {X:Ext} {call:Caller}
def dP (l:List Nat):List Nat:=(List.range 39).filter fun i => !(memN i l)
abbrev zS:List AV:=[.list .nil 0 0 [],.list .nil 0 0 [],.list .nil 0 0 []]
abbrev c0:Ob := .cells zS
abbrev c1:Ob := .cells [i6 0]
abbrev K16 (t:ByteArray) (σ:List Ob):St:=kst39 [(0,st t),(2,.ref 0 0),(3,.ref 1 0),(4,.ref 2 0),(5,.ref 4 0)] σ
/-- The results' boxes are at hand. -/
def refsIn (T:St):Prop:=nth T.tmps 2 = .ref 0 0∧nth T.tmps 3 = .ref 1 0∧nth T.tmps 4 = .ref 2 0
/-- At the head of the loop. -/
def HeadP (res:Sgn × Int × Int) (S:St):Prop:=∃ x t n,Vm.forget (dP [0,2,3,4,5]) S=K16 t (lay x c0 c1 c1 (↑(n:Nat):Int))∧parseLs x n (spl 10 t.data.toList)=res∧OkP x n∧n + t.size ≤ mega
def meas (S:St):Nat:=match nth S.tmps 0 with
  | .str s=>s.size
  | _=>0
theorem forget_tmps (D:List Nat) (S:St):(Vm.forget D S).tmps=forgetT D S.tmps:=rfl
theorem head_size {S:St} {t:ByteArray} {σ:List Ob} (h:Vm.forget (dP [0,2,3,4,5]) S=K16 t σ):meas S=t.size:=by
  have e:=nth_forget (D:=dP [0,2,3,4,5]) (l:=S.tmps) (t:=0) (by kernel_rfl)
  have e0:forgetT (dP [0,2,3,4,5]) S.tmps=(K16 t σ).tmps:=(forget_tmps _ _).symm.trans (congrArg St.tmps h)
  rw [e0] at e
  have e2:nth (K16 t σ).tmps 0=st t:=by kernel_rfl
  unfold meas
  rw [← e,e2]
/-- A wrong line's end. -/
def PanicP (res:Sgn × Int × Int) (v:Value) (T:St):Prop:=refsIn T∧∃ n:Int,v=wrongV n∧res=(eG,n,3)∧first3 c0 c1 c1 T.st
/-- The end of the loop. -/
def LoopP (res:Sgn × Int × Int) (e:Ex) (T:St):Prop:=e = .exit 0∧∃ x t n,Vm.forget (dP [0,2,3,4,5]) T=K16 t (lay x c0 c1 c1 n)∧res=(x,0,0)
/-- What is asked of the calls. -/
structure CallsP (X:Ext) (call:Caller):Prop where
  h37:∀ s σ,s.size ≤ mega→callv X call false 37 [st s,st nl] σ 0=some (.tup [st (bytesB (Lib.cut s.data.toList [10]).1),st (bytesB (Lib.cut s.data.toList [10]).2.1),bo (Lib.cut s.data.toList [10]).2.2],σ)
  h59:∀ s σ,s.size ≤ mega→callv X call false 59 [st s,st (ByteArray.mk #[32])] σ 0=some (strsV (wordsL s),σ)
  h57:H57 (bareX X) call
  h48:∀ l:List ByteArray,l.length ≤ 10000000→callv X (call0 call) true 48 [strsV l] [] 0=some (strsV l,[])
set_option maxRecDepth 100000 in
theorem round16 (hX:ExtOk Tryd.prog X) (hc:CallOk Tryd.prog call) (hcs:CallsP X call) {ds:List Deferred} {res:Sgn × Int × Int} {S:St} (hS:HeadP res S) :
    SP Tryd.prog 0 ds (.seq (.seq (regN Tryd.f16 3) (.cond (.tmp 14) .skip (.exit 0))) (.block 1 (.seq (regN Tryd.f16 4) (.seq (regN Tryd.f16 5) (.seq (.region 6 (opsR (regN Tryd.f16 6)) false) (.seq (.region 7 (opsR (regN Tryd.f16 7)) false) (regN Tryd.f16 8))))))) S
      (fun e T=>match e with | .normal=>HeadP res T∧meas T < meas S | e=>LoopP res e T) (PanicP res):=by
  obtain ⟨x,t,n,hf,hres,hok,hn⟩:=hS
  have hms:=head_size hf
  rw [hms]
  refine SP.forget (dP [0,2,3,4,5]) ?_
  rw [hf]
  have hmega:mega=1000000:=rfl
  by_cases ht:t.toList=(ByteArray.mk #[]).toList
  · -- the text's end
    have ht0:t=ByteArray.mk #[]:=eqB_iff.1 (by rw [ht]; exact beq_self_eq_true _)
    have hb:(!(t.toList == (ByteArray.mk #[]).toList))=false:=by rw [ht]; simp
    refine SP.seq (R1:=fun e T=>e = .exit 0∧LoopP res e T) ?_ (fun T h=>by cases h.1) (fun e T he h => ?_)
    · refine SP.next hX hc (dP [0, 2, 3, 4, 5, 14]) (f16_R3_f _ _ _ _ _ _ _ _ _ t X call 0 hb) (by kernel_rfl) (S2 := kst39 [(0, st t), (2, .ref 0 0), (3, .ref 1 0), (4, .ref 2 0), (5, .ref 4 0), (14, bo false)] (lay x c0 c1 c1 (↑n : Int))) (by kernel_rfl) ?_
      refine SP.cond (b:=false) (by kernel_rfl) ?_
      have hx:vexec Tryd.prog X call 0 0 noFg (.exit 0) (kst39 [(0,st t),(2,.ref 0 0),(3,.ref 1 0),(4,.ref 2 0),(5,.ref 4 0),(14,bo false)] (lay x c0 c1 c1 (↑n:Int)))=some (.exit 0,kst39 [(0,st t),(2,.ref 0 0),(3,.ref 1 0),(4,.ref 2 0),(5,.ref 4 0),(14,bo false)] (lay x c0 c1 c1 (↑n:Int))):=rfl
      refine SP.last hX hc hx rfl ⟨rfl,rfl,x,t,↑n,by kernel_rfl,?_⟩
      rw [← hres,ht0]
      rfl
    · obtain ⟨rfl, h⟩ := h
      exact h
  · have hb : (!(t.toList == (ByteArray.mk #[]).toList)) = true := by simpa using ht
    have hne : t.data.toList ≠ [] := by
      intro e
      apply ht
      rw [ByteArray.toList_eq,e,ByteArray.toList_eq]
    refine SP.seq (R1:=fun e T=>e = .normal∧Vm.forget (dP [0,2,3,4,5]) T=K16 t (lay x c0 c1 c1 (↑n:Int))) ?_ ?_ (fun e T he h=>absurd h.1 he)
    · refine SP.next hX hc (dP [0, 2, 3, 4, 5, 14]) (f16_R3_t _ _ _ _ _ _ _ _ _ t X call 0 hb) (by kernel_rfl) (S2 := kst39 [(0, st t), (2, .ref 0 0), (3, .ref 1 0), (4, .ref 2 0), (5, .ref 4 0), (14, bo true)] (lay x c0 c1 c1 (↑n : Int))) (by kernel_rfl) ?_
      refine SP.cond (b:=true) (by kernel_rfl) ?_
      exact SP.skip ⟨rfl,by kernel_rfl⟩
    rintro T ⟨_,hT⟩
    refine SP.forget (dP [0,2,3,4,5]) ?_
    rw [hT]
    refine SP.block ?_
    have hup:(↑(n + 1):Int)=w6 ((↑n:Int) + 1):=up (i:=n) (n:=n + 1) (by omega) (le_big (by omega))
    have hlay:∀ k,lay x c0 c1 c1 k=pB c0 c1 c1 (mapE (declsOf x)) (hS x) (hC x) (hP x) k (rowsP x):=fun _=>rfl
    refine SP.next hX hc (dP [0,2,3,4,5]) (f16_R4_ c0 c1 c1 _ _ _ _ (↑n) _ t X call 0) (by kernel_rfl) (S2:=K16 t (lay x c0 c1 c1 (↑(n + 1):Int))) (by rw [hup]; kernel_rfl) ?_
    have h37:=hcs.h37 t (lay x c0 c1 c1 (↑(n + 1):Int)) (by omega)
    have fin:∀ (b:Bool),CallP Tryd.prog 38 [.ref 4 0,bo b] (lay x c0 c1 c1 (↑(n + 1):Int)) 0 (fun r σ' => b=true∧σ' = lay x c0 c1 c1 (↑(n + 1):Int)∧r = .tup []) (fun v σ' => b=false∧σ' = lay x c0 c1 c1 (↑(n + 1):Int)∧v=wrongV (↑(n + 1):Int)):=fun b=>fail38 hX hc
    have h6 : ∀ (b : Bool) (s1 s2 : ByteArray) {R : Ex → St → Prop} {RP : Value → St → Prop} {rest : Code}, (b = true → SP Tryd.prog 0 ds rest (kst39 [(0, st t), (2, .ref 0 0), (3, .ref 1 0), (4, .ref 2 0), (5, .ref 4 0), (6, st s1), (7, st s2)] (lay x c0 c1 c1 (↑(n + 1) : Int))) R RP) →
        (b=false→∀ T,refsIn T→T.st=lay x c0 c1 c1 (↑(n + 1):Int)→RP (wrongV (↑(n + 1):Int)) T) →
        SP Tryd.prog 0 ds (.seq (.region 6 (opsR (regN Tryd.f16 6)) false) rest) (kst39 [(0,st t),(2,.ref 0 0),(3,.ref 1 0),(4,.ref 2 0),(5,.ref 4 0),(6,st s1),(7,st s2),(8,bo b)] (lay x c0 c1 c1 (↑(n + 1):Int))) R RP:=by
      intro b s1 s2 R RP rest h1 h2
      exact SP.checkT hX hc (dP [0, 2, 3, 4, 5, 6, 7]) (pre := (opsR (regN Tryd.f16 6)).toList.take 2) (o := (opsR (regN Tryd.f16 6)).toList.getD 2 default) (f := 38) (b := b) (v := wrongV (↑(n + 1) : Int))
        (S1:=kst39 [(0,st t),(2,.ref 0 0),(3,.ref 1 0),(4,.ref 2 0),(5,.ref 4 0),(6,st s1),(7,st s2),(8,bo b),(28,.ref 4 0),(29,bo b)] (lay x c0 c1 c1 (↑(n + 1):Int)))
        (c := { callee := .value (.func 38),args := #[.tmp 28,.tmp 29],argTypes := #[56,4] }) (by kernel_rfl) (by kernel_rfl) rfl (by kernel_rfl) (by kernel_rfl) (vs:=[.ref 4 0,bo b]) (by kernel_rfl) (fin b) (by kernel_rfl) h1 (fun hb=>h2 hb _ ⟨by kernel_rfl,by kernel_rfl,by kernel_rfl⟩ rfl)
    rcases cut_cases t with ⟨hc1,hc2⟩ | ⟨l,rest,hc1,hc2,hc3⟩
    · -- no end of a line
      rw [hc1] at h37
      refine SP.next hX hc (dP [0,2,3,4,5,6,7,8]) (f16_R5_f c0 c1 c1 _ _ _ _ _ _ t _ _ _ X call 0 h37 rfl) (by kernel_rfl) (S2:=kst39 [(0,st t),(2,.ref 0 0),(3,.ref 1 0),(4,.ref 2 0),(5,.ref 4 0),(6,st (bytesB t.data.toList)),(7,st (bytesB [])),(8,bo false)] (lay x c0 c1 c1 (↑(n + 1):Int))) (by kernel_rfl) ?_
      refine h6 false _ _ (fun h=>by cases h) fun _ T h1 h2=>⟨h1,_,rfl,?_,by rw [h2]; exact ⟨_,rfl⟩⟩
      rw [← hres,hc2]
      show (if t.data.toList=[] then _ else _)=_
      rw [if_neg hne]
    · rw [hc1] at h37
      refine SP.next hX hc (dP [0,2,3,4,5,6,7,8]) (f16_R5_t c0 c1 c1 _ _ _ _ _ _ t _ _ _ X call 0 h37 rfl) (by kernel_rfl) (S2:=kst39 [(0,st t),(2,.ref 0 0),(3,.ref 1 0),(4,.ref 2 0),(5,.ref 4 0),(6,st (bytesB l)),(7,st (bytesB rest)),(8,bo true)] (lay x c0 c1 c1 (↑(n + 1):Int))) (by kernel_rfl) ?_
      refine h6 true _ _ (fun _ => ?_) fun h=>by cases h
      -- the line is read
      have hls:(bytesB l).size ≤ mega:=by rw [bytesB_size]; omega
      have h39:=read39 hX hc (x:=x) (line:=bytesB l) (o0:=c0) (o1:=c1) (o2:=c1) (n:=(↑(n + 1):Int)) (okP_ok hok (by omega)) (okLine_of hls) (fun σ=>hcs.h59 _ σ hls) hcs.h57 hcs.h48
      have hstep : ∀ r, readF x (bytesB l) = r → parseLs x n (l :: spl 10 rest) = match r with | some x' => parseLs x' (n + 1) (spl 10 rest) | none => (eG, (↑(n + 1) : Int), 3) := by
        intro r hr
        cases hsp:spl 10 rest with
        | nil=>exact absurd hsp (spl_ne _ _)
        | cons m ms =>
          show (match readF x (bytesB l) with | some x' => _ | none=>_)=_
          rw [hr]
      refine SP.seq (R1 := fun e T => e = .normal ∧ ∃ x', readF x (bytesB l) = some x' ∧ Vm.forget (dP [0, 2, 3, 4, 5, 7]) T = kst39 [(0, st t), (2, .ref 0 0), (3, .ref 1 0), (4, .ref 2 0), (5, .ref 4 0), (7, st (bytesB rest))] (lay x' c0 c1 c1 (↑(n + 1) : Int)))
        (SP.call hX hc (pre := (opsR (regN Tryd.f16 7)).toList.take 2) (o := (opsR (regN Tryd.f16 7)).toList.getD 2 default) (post := []) (f := 39) (caps := []) (vs := [.ref 4 0, st (bytesB l)])
          (S1:=kst39 [(0,st t),(2,.ref 0 0),(3,.ref 1 0),(4,.ref 2 0),(5,.ref 4 0),(6,st (bytesB l)),(7,st (bytesB rest)),(31,.ref 4 0),(32,st (bytesB l))] (lay x c0 c1 c1 (↑(n + 1):Int)))
          (c := { callee := .value (.func 39),args := #[.tmp 31,.tmp 32],argTypes := #[56,9] }) (g := .func 39) (by kernel_rfl) (by kernel_rfl) (by kernel_rfl) rfl (by kernel_rfl) rfl (by kernel_rfl) h39 ?_ ?_) ?_ ?_
      · rintro r σ' ⟨rfl, x', h1, rfl⟩
        exact ⟨_,rfl,rfl,x',h1,by kernel_rfl⟩
      · rintro v σ' ⟨h1, rfl, h2⟩
        refine ⟨⟨by kernel_rfl,by kernel_rfl,by kernel_rfl⟩,_,rfl,?_,h2⟩
        rw [← hres,hc2,hstep none h1]
      · rintro T ⟨_, x', h1, hT⟩
        refine SP.forget (dP [0,2,3,4,5,7]) ?_
        rw [hT]
        refine SP.last hX hc (f16_R8_ c0 c1 c1 _ _ _ _ _ _ t (bytesB rest) X call 0) (by kernel_rfl) ?_
        have hfin:Vm.forget (dP [0,2,3,4,5]) (kst39 [(0,st (bytesB rest)),(2,.ref 0 0),(3,.ref 1 0),(4,.ref 2 0),(5,.ref 4 0),(7,st (bytesB rest)),(34,st (bytesB rest))] (lay x' c0 c1 c1 (↑(n + 1):Int)))=K16 (bytesB rest) (lay x' c0 c1 c1 (↑(n + 1):Int)):=by kernel_rfl
        refine ⟨⟨x',bytesB rest,n + 1,hfin,?_,readF_ok h1 hok ?_,?_⟩,?_⟩
        · rw [← hres,hc2,hstep _ h1]; rfl
        · rw [bytesB_size]; omega
        · rw [bytesB_size]; omega
        · have := head_size hfin
          rw [bytesB_size] at this
          exact Nat.lt_of_le_of_lt (Nat.le_of_eq this) (by omega)
      · rintro e T he ⟨h1, _⟩
        exact absurd h1 he
end Go.Proofs.Sig
end
/- Signature: Parse, told. -/
section
open Go Go.Vm Go.Proofs
namespace Go.Proofs.Sig
variable [Fixed] {X:Ext} {call:Caller}
def vRow {α:Type} (A:Cod α) (l:List α):AV:=if l.length=0 then .list .nil 0 0 [] else .list .ro l.length A.k (l.flatMap A.enc)
theorem vRow_dec {α:Type} (A:Cod α) (l:List α):A.list.dec [vRow A l]=some l:=by
  unfold vRow
  split
  · rename_i h
    have:l=[]:=List.eq_nil_of_length_eq_zero h
    subst this
    rfl
  · exact A.list.de l
theorem thaw_row {α:Type} (A:Cod α) {σ:List Ob} {id:Nat} {l:List α} (h:l.length ≠ 0→σ[id]? = some (.arr l.length A.k (l.flatMap A.enc))):AV.thaw σ (grV (.list .nil 0 0 []) id l.length)=some (vRow A l):=by
  unfold grV vRow
  split
  · rfl
  · rename_i hl
    simp only [AV.thaw,h hl,if_true]
theorem row_get {α:Type} (A:Cod α) {l:List α} (h:l.length ≠ 0):row A l=[.arr l.length A.k (l.flatMap A.enc)]:=if_neg h
theorem owns_grV (i n:Nat):AV.owns (grV (.list .nil 0 0 []) i n)=[] ∨ (n ≠ 0∧AV.owns (grV (.list .nil 0 0 []) i n)=[i]):=by
  unfold grV
  split
  · exact .inl rfl
  · rename_i h; exact .inr ⟨h,rfl⟩
theorem freeze_ok {ro:Nat}:∀ (ids:List Nat) (σ:List Ob),(∀ id ∈ ids,id < σ.length∧ro ≤ id)→∃ σ',freezeIds ro σ ids=some σ'
  | [],σ,_=>⟨σ,rfl⟩
  | id :: ids, σ, h => by
    obtain ⟨h1,h2⟩:=h id (List.mem_cons_self ..)
    have key : ∃ σ1, freezeId ro σ id = some σ1 ∧ σ1.length = σ.length := by
      unfold freezeId
      rw [List.getElem?_eq_getElem h1]
      cases σ[id] with
      | arr n sz cs => exact ⟨_, if_pos h2, by
          have : ∀ (l : List Ob) (i : Nat) (o : Ob), (setOb l i o).length = l.length := by
            intro l
            induction l with
            | nil=>intro i o; rfl
            | cons a l ih=>intro i o; cases i <;> simp [setOb,ih]
          exact this _ _ _⟩
      | cells _=>exact ⟨_,rfl,rfl⟩
      | fro _ _ _=>exact ⟨_,rfl,rfl⟩
      | mapo _=>exact ⟨_,rfl,rfl⟩
      | gone=>exact ⟨_,rfl,rfl⟩
      | brow _ _=>exact ⟨_,rfl,rfl⟩
    obtain ⟨σ1,k1,k2⟩:=key
    obtain ⟨σ',k3⟩:=freeze_ok ids σ1 fun j hj=>by rw [k2]; exact h j (List.mem_cons_of_mem _ hj)
    exact ⟨σ',by simp only [freezeIds,k1,k3]⟩
theorem isH_grV (i n:Nat):isH (grV (.list .nil 0 0 []) i n):=by
  unfold grV
  split
  · exact .inl rfl
  · exact .inr ⟨_,_,rfl⟩
theorem prod_dec {α β:Type} {A:Cod α} {B:Cod β} {cs ds:List AV} {a:α} {b:β} (hl:cs.length=A.k) (h1:A.dec cs=some a) (h2:B.dec ds=some b):(A.prod B).dec (cs ++ ds)=some (a,b):=by
  simp only [Cod.prod,← hl,List.take_left,List.drop_left,h1,h2]
theorem iso_dec {α β:Type} {A:Cod α} {f:α→β} {g:β→α} {h:∀ x,f (g x)=x} {h' : ∀ x,g (f x)=x} {cs:List AV} {a:α} (k:A.dec cs=some a):(A.iso f g h h').dec cs=some (f a):=by
  simp only [Cod.iso,k,Option.map_some]
theorem tup3_dec {α β γ:Type} {A:Arg α} {B:Arg β} {D:Arg γ} {a b c:AV} {x:α} {y:β} {z:γ} (h1:A.dec a=some x) (h2:B.dec b=some y) (h3:D.dec c=some z):(Arg.tup3 A B D).dec (.tup [a,b,c])=some (x,y,z):=by
  simp only [Arg.tup3,h1,h2,h3]
def aR:Arg (Sgn × Int × Int):=Arg.tup3 aG aI aI
/-- The results' end. -/
theorem vend16 {x:Sgn} {T:St} {a b:Int} {o3 o4:Ob} (h:refsIn T) (hst:T.st = .cells [hS x,hC x,hP x] :: .cells [i6 a] :: .cells [i6 b]::o3::o4::rowsP x):∃ r σ',vend Tryd.prog Tryd.f16 [] 0 T=some (r,σ')∧aR.dec r=some (x,a,b):=by
  obtain ⟨h2,h3,h4⟩:=h
  have hrs : resultsv Tryd.prog T Tryd.f16.results.toList = some [.agg [hS x, hC x, hP x], i6 a, i6 b] := by
    rw [Tryd.results16]
    show (match resultv Tryd.prog T (.cell 2 26),resultsv Tryd.prog T [.cell 3 3,.cell 4 29] with | some v,some vs=>some (v::vs) | _,_=>none)=_
    have e1 : resultv Tryd.prog T (.cell 2 26) = some (.agg [hS x, hC x, hP x]) := by
      show loadv Tryd.prog 26 T.st (nth T.tmps 2)=_
      rw [h2,hst]; kernel_rfl
    have e2 : resultv Tryd.prog T (.cell 3 3) = some (i6 a) := by
      show loadv Tryd.prog 3 T.st (nth T.tmps 3)=_
      rw [h3,hst]; kernel_rfl
    have e3 : resultv Tryd.prog T (.cell 4 29) = some (i6 b) := by
      show loadv Tryd.prog 29 T.st (nth T.tmps 4)=_
      rw [h4,hst]; kernel_rfl
    simp only [resultsv,e1,e2,e3]
  unfold vend
  rw [hrs]
  simp only
  have g1 : x.sorts.length ≠ 0 → T.st[5]? = some (.arr x.sorts.length Cod.str.k (x.sorts.flatMap Cod.str.enc)) := by
    intro hn
    rw [hst]
    show (rowsP x)[0]? = _
    unfold rowsP
    rw [row_get _ hn]
    rfl
  have g2 : x.consts.length ≠ 0 → T.st[5 + nz x.sorts.length]? = some (.arr x.consts.length cC.k (x.consts.flatMap cC.enc)) := by
    intro hn
    rw [hst,Nat.add_comm]
    show (rowsP x)[nz x.sorts.length]? = _
    unfold rowsP
    rw [List.getElem?_append_right (by rw [row_len]; exact Nat.le_refl _),row_len,Nat.sub_self,row_get _ hn]
    rfl
  have g3 : x.preds.length ≠ 0 → T.st[5 + nz x.sorts.length + nz x.consts.length]? = some (.arr x.preds.length cP.k (x.preds.flatMap cP.enc)) := by
    intro hn
    rw [hst,Nat.add_assoc,Nat.add_comm]
    show (rowsP x)[nz x.sorts.length + nz x.consts.length]? = _
    unfold rowsP
    rw [List.getElem?_append_right (by rw [row_len]; omega),row_len,Nat.add_sub_cancel_left,List.getElem?_append_right (by rw [row_len]; exact Nat.le_refl _),row_len,Nat.sub_self,row_get _ hn]
    rfl
  have ht : AV.thawAll T.st [.agg [hS x, hC x, hP x], i6 a, i6 b] = some [.agg [vRow Cod.str x.sorts, vRow cC x.consts, vRow cP x.preds], i6 a, i6 b] := by
    simp only [AV.thawAll,AV.thaw,hS,hC,hP,thaw_row Cod.str g1,thaw_row cC g2,thaw_row cP g3]
  have hlt : ∀ id ∈ AV.ownsAll [.agg [hS x, hC x, hP x], i6 a, i6 b], id < T.st.length ∧ 0 ≤ id := by
    intro id hid
    refine ⟨?_,Nat.zero_le _⟩
    simp only [AV.ownsAll,AV.owns,List.append_nil,List.mem_append] at hid
    rcases hid with hid | hid | hid
    · rcases owns_grV 5 x.sorts.length with e | ⟨e1, e⟩
      · rw [hS,e] at hid; simp at hid
      · rw [hS, e] at hid
        have:=(List.getElem?_eq_some_iff.1 (g1 e1)).1
        have:id=5:=by simpa using hid
        omega
    · rcases owns_grV (5 + nz x.sorts.length) x.consts.length with e | ⟨e1, e⟩
      · rw [hC,e] at hid; simp at hid
      · rw [hC, e] at hid
        have:=(List.getElem?_eq_some_iff.1 (g2 e1)).1
        have:id=5 + nz x.sorts.length:=by simpa using hid
        omega
    · rcases owns_grV (5 + nz x.sorts.length + nz x.consts.length) x.preds.length with e | ⟨e1, e⟩
      · rw [hP,e] at hid; simp at hid
      · rw [hP, e] at hid
        have:=(List.getElem?_eq_some_iff.1 (g3 e1)).1
        have:id=5 + nz x.sorts.length + nz x.consts.length:=by simpa using hid
        omega
  obtain ⟨σ',hfr⟩:=freeze_ok _ _ hlt
  unfold vend1
  rw [ht,hfr]
  refine ⟨_,_,rfl,?_⟩
  have hdec : cS.dec [vRow Cod.str x.sorts, vRow cC x.consts, vRow cP x.preds] = some x :=
    iso_dec (prod_dec (cs:=[vRow Cod.str x.sorts]) rfl (vRow_dec Cod.str x.sorts) (prod_dec (cs:=[vRow cC x.consts]) (ds:=[vRow cP x.preds]) rfl (vRow_dec cC x.consts) (vRow_dec cP x.preds)))
  have hr:resOf [] T.st [AV.agg [hS x,hC x,hP x],i6 a,i6 b] [AV.agg [vRow Cod.str x.sorts,vRow cC x.consts,vRow cP x.preds],i6 a,i6 b] = .tup [.agg [vRow Cod.str x.sorts,vRow cC x.consts,vRow cP x.preds],i6 a,i6 b]:=rfl
  rw [hr]
  exact tup3_dec (A:=aG) (B:=aI) (D:=aI) hdec rfl rfl
set_option maxRecDepth 100000 in
/-- signature.Parse. -/
theorem parse16 (hX:ExtOk Tryd.prog X) (hc:CallOk Tryd.prog call) (hcs:CallsP X call) {t:ByteArray} (ht:t.size ≤ mega):CallAt Tryd.prog 16 [st t] [] 0 (aR.enc (parseF t)) []:=by
  generalize hres:parseF t=res
  refine call_deferred hX hc (fn := Tryd.f16) (R0 := regN Tryd.f16 0) (rest := .seq (regN Tryd.f16 2) (.seq (.block 0 (.loop (.seq (.seq (regN Tryd.f16 3) (.cond (.tmp 14) .skip (.exit 0))) (.block 1 (.seq (regN Tryd.f16 4) (.seq (regN Tryd.f16 5) (.seq (.region 6 (opsR (regN Tryd.f16 6)) false) (.seq (.region 7 (opsR (regN Tryd.f16 7)) false) (regN Tryd.f16 8))))))))) (.seq (regN Tryd.f16 9) .ret)))
    (i1:=1) (lf:=0) (t:=9) (ops1:=opsR (regN Tryd.f16 1)) (fg:=noFg) (mk:=(opsR (regN Tryd.f16 1)).toList.getD 0 default) (df:=(opsR (regN Tryd.f16 1)).toList.getD 1 default) (g:=36) (gt:=36) (cs := #[.tmp 2,.tmp 3,.tmp 4]) (cl := { callee := .value (.tmp 9),args := #[],argTypes := #[] }) (cv:=[.ref 0 0,.ref 1 0,.ref 2 0])
    (S1:=stOf 39 [] [(0,st t),(2,.ref 0 0),(3,.ref 1 0),(4,.ref 2 0)] [c0,c1,c1])
    (R:=fun e T=>e = .ret∧refsIn T∧∃ x n,res=(x,0,0)∧T.st = .cells [hS x,hC x,hP x] :: .cells [i6 0] :: .cells [i6 0] :: .mapo (mapE (declsOf x)) :: .cells [hS x,hC x,hP x,.map 3,i6 n]::rowsP x) (RP:=PanicP res)
    Tryd.func16 (by kernel_rfl) (of_decide_eq_true (by kernel_rfl)) (bodied Tryd.func36 (by kernel_rfl) (by kernel_rfl)) (by kernel_rfl) (by kernel_rfl) (by kernel_rfl) (by kernel_rfl) (by kernel_rfl) (by kernel_rfl) (by kernel_rfl) (by kernel_rfl) (by kernel_rfl) rfl rfl (by kernel_rfl) (by show 9 < 39; decide) ?_ idle36 ?_ ?_
  · intro ds
    refine SP.next hX hc (dP [0,2,3,4,5]) (lf:=0) (fg:=noFg) (S1:=stOf 39 [] [(0,st t),(2,.ref 0 0),(3,.ref 1 0),(4,.ref 2 0),(5,.ref 4 0),(9,.clo 36 [.ref 0 0,.ref 1 0,.ref 2 0]),(10,.map 3),(11,.agg [.list .nil 0 0 [],.list .nil 0 0 [],.list .nil 0 0 [],.map 3,i6 0]),(12,.ref 4 0)] (lay eG c0 c1 c1 0)) (by kernel_rfl) (by kernel_rfl) (S2:=K16 t (lay eG c0 c1 c1 0)) (by kernel_rfl) ?_
    have hhead:HeadP res (K16 t (lay eG c0 c1 c1 0)):=⟨eG,t,0,by kernel_rfl,hres,⟨Nat.le_refl _,by simp [eG],by simp [eG],by simp [eG]⟩,by omega⟩
    refine SP.seq (R1:=fun e T=>e = .normal∧LoopP res (.exit 0) T) (SP.block ?_) ?_ (fun e T he h=>absurd h.1 he)
    · refine (SP.loop (HeadP res) meas hhead (R := LoopP res) (RP := PanicP res) ?_).mono ?_ (fun v T h => h)
      · intro S hS
        refine (round16 hX hc hcs hS).mono ?_ (fun v T h=>h)
        intro e T h
        cases e with
        | normal=>exact h
        | exit id=>exact h
        | ret=>exact h
      · rintro e T h
        obtain ⟨rfl,h1⟩:=h
        exact ⟨rfl,rfl,h1⟩
    · rintro T ⟨_, _, x, t', n, hf, hr⟩
      refine SP.forget (dP [0,2,3,4,5]) ?_
      rw [hf]
      refine SP.next hX hc [] (f16_R9_ _ _ _ _ _ _ _ _ _ n _ t' X call 0 (isH_grV _ _) (isH_grV _ _) (isH_grV _ _)) (by kernel_rfl) (forget_nil _) ?_
      exact SP.ret ⟨rfl,⟨by kernel_rfl,by kernel_rfl,by kernel_rfl⟩,x,n,hr,rfl⟩
  · rintro e T ⟨rfl, h1, x, n, h2, h3⟩
    refine ⟨.inr rfl,?_⟩
    rw [h2]
    exact vend16 h1 h3
  · rintro v T ⟨h1, n, rfl, h2, τ, h3⟩
    refine ⟨_,by rw [h3]; exact catch36 hX hc,?_⟩
    rw [h2]
    have hz : ∃ r σ', vend Tryd.prog Tryd.f16 [] 0 ⟨T.tmps, .cells zS :: .cells [i6 n] :: .cells [i6 3] :: τ⟩ = some (r, σ') ∧ r = .tup [.agg zS, i6 n, i6 3] := by
      obtain ⟨k2,k3,k4⟩:=h1
      have hrs : resultsv Tryd.prog ⟨T.tmps, .cells zS :: .cells [i6 n] :: .cells [i6 3] :: τ⟩ Tryd.f16.results.toList = some [.agg zS, i6 n, i6 3] := by
        rw [Tryd.results16]
        have e1 : resultv Tryd.prog ⟨T.tmps, .cells zS :: .cells [i6 n] :: .cells [i6 3] :: τ⟩ (.cell 2 26) = some (.agg zS) := by
          show loadv Tryd.prog 26 _ (nth T.tmps 2)=_
          rw [k2]; kernel_rfl
        have e2 : resultv Tryd.prog ⟨T.tmps, .cells zS :: .cells [i6 n] :: .cells [i6 3] :: τ⟩ (.cell 3 3) = some (i6 n) := by
          show loadv Tryd.prog 3 _ (nth T.tmps 3)=_
          rw [k3]; kernel_rfl
        have e3 : resultv Tryd.prog ⟨T.tmps, .cells zS :: .cells [i6 n] :: .cells [i6 3] :: τ⟩ (.cell 4 29) = some (i6 3) := by
          show loadv Tryd.prog 29 _ (nth T.tmps 4)=_
          rw [k4]; kernel_rfl
        simp only [resultsv,e1,e2,e3]
      unfold vend
      rw [hrs]
      exact ⟨_,_,rfl,rfl⟩
    obtain ⟨r,σ',hz1,rfl⟩:=hz
    exact ⟨_,_,hz1,tup3_dec (A:=aG) (B:=aI) (D:=aI) (x:=eG) rfl rfl rfl⟩
end Go.Proofs.Sig
end
/- Signature: symbols, the reference, walked (printed) -/
section
open Go Go.Vm Go.Proofs
namespace Go.Proofs.Sig
def fg31:Nat→List Nat
  | 5004=>[1]
  | _=>[]
def f31_F0 (x0:Sgn)(s1:ByteArray)(S0:Nat→List Ob)(o5:Nat→AV)(i0:Nat):St :=
  stOf 34 [7,12,13,14,15,16,17,18,19,20,21,22,23,24,25,26,27,28,29,30,31,32] [(0,AV.agg (gQ x0)),(1,st s1),(2,AV.ref 0 0),(4,AV.list LK.nil 0 0 []),(5,o5 i0),(8,AV.ref 0 2),(9,pQ x0.preds),(10,i6 (↑x0.preds.length:Int)),(11,i6 (↑i0:Int))] (S0 i0)
def f31_S0 (x0:Sgn)(s1:ByteArray):St :=
  stOf 34 [] [(0,AV.agg (gQ x0)),(1,st s1),(2,AV.ref 0 0),(4,AV.list LK.nil 0 0 []),(5,AV.list LK.nil 0 0 []),(8,AV.ref 0 2),(9,pQ x0.preds),(10,i6 (↑x0.preds.length:Int)),(11,i6 0)] [Ob.cells (gQ x0)]
abbrev f31_D0:List Nat:=[32,31,30,29,28,27,26,25,24,23,22,21,20,19,18,17,16,15,7,14,13,12]
theorem f31_L0 (x0:Sgn)(s1:ByteArray)(S0:Nat→List Ob)(o5:Nat→AV)(X:Ext)(call:Caller)(lf n:Nat)(x:Ex) (S' : St)
 (e0:o5 0=AV.list LK.nil 0 0 [])
 (e1:S0 0=[Ob.cells (gQ x0)])
 (hn:n<lf)
 (hs:∀ j,j<n→∃ Sx,vexec Tryd.prog X call lf 0 fg31 (loopN Tryd.f31 0) (f31_F0 x0 s1 S0 o5 j)=some (Ex.normal,Sx)∧forget f31_D0 Sx=(f31_F0 x0 s1 S0 o5 (j + 1)))
 (he:vexec Tryd.prog X call lf 0 fg31 (loopN Tryd.f31 0) (f31_F0 x0 s1 S0 o5 n)=some (x,S'))
 (hx:x ≠ Ex.normal):vexec Tryd.prog X call lf 0 fg31 (Go.Code.loop (loopN Tryd.f31 0)) (f31_S0 x0 s1)=some (x,S') :=
  loop_runK (by kernel_rfl) (fun j=>(f31_F0 x0 s1 S0 o5 j)) n hn (by show forget f31_D0 (f31_S0 x0 s1)=(f31_F0 x0 s1 S0 o5 0); unfold f31_F0; rw [e0,e1]; show _=_; kernel_rfl) hs he hx
theorem f31_s0_ttt (x0:Sgn)(s1:ByteArray)(X:Ext)(call:Caller)(lf:Nat)(S0:Nat→List Ob)(o5:Nat→AV)(i0:Nat)(a:ByteArray)(d:List ByteArray)(r13:List AV)(e:ByteArray)(r22:List AV)(v31:AV)(s31:List Ob)
 (h0:decide ((↑i0:Int)<(↑x0.preds.length:Int))=true)
 (h1:keep (S0 i0) (indexAddrv Tryd.prog 24 (S0 i0) (pQ x0.preds) (i6 (↑i0:Int)))=some (AV.eaddr (st a::sQ d::r13),S0 i0))
 (h2:((↑d.length:Int) == 1)=true)
 (h3:keep (S0 i0) (indexAddrv Tryd.prog 22 (S0 i0) (sQ d) (i6 0))=some (AV.eaddr (st e::r22),S0 i0))
 (h4:(ByteArray.toList e == ByteArray.toList s1)=true)
 (h5:appendv Tryd.prog 22 (S0 i0) 0 (o5 i0) (AV.list LK.clip 1 1 [st a])=some (v31,s31))
 (e0:o5 (i0 + 1)=v31)
 (e1:(↑(i0 + 1):Int)=w6 ((↑i0:Int) + 1))
 (e2:S0 (i0 + 1)=s31):∃ Sx,vexec Tryd.prog X call lf 0 fg31 (loopN Tryd.f31 0) (f31_F0 x0 s1 S0 o5 i0)=some (Ex.normal,Sx)∧forget f31_D0 Sx=(f31_F0 x0 s1 S0 o5 (i0 + 1)) :=
  ⟨stOf 34 [] [(0,AV.agg (gQ x0)),(1,st s1),(2,AV.ref 0 0),(4,AV.list LK.nil 0 0 []),(5,v31),(7,AV.eaddr [st a,sQ d]),(8,AV.ref 0 2),(9,pQ x0.preds),(10,i6 (↑x0.preds.length:Int)),(11,i6 (w6 ((↑i0:Int) + 1))),(12,bo true),(13,AV.eaddr (st a::sQ d::r13)),(14,AV.agg [st a,sQ d]),(15,AV.eaddr [sQ d]),(16,sQ d),(17,i6 (↑d.length:Int)),(18,bo true),(19,bo true),(20,AV.eaddr [sQ d]),(21,sQ d),(22,AV.eaddr (st e::r22)),(23,st e),(24,st s1),(25,bo true),(26,bo true),(27,o5 i0),(28,AV.eaddr [st a,sQ d]),(29,st a),(30,AV.list LK.clip 1 1 [st a]),(31,v31),(32,i6 (w6 ((↑i0:Int) + 1)))] s31,around_sound (ans:=[(1,Ans.b true),(4,Ans.v (AV.eaddr (st a::sQ d::r13))),(10,Ans.b true),(17,Ans.v (AV.eaddr (st e::r22))),(23,Ans.b true),(31,Ans.c v31 s31)]) (by kernel_rfl) (ai h0 (ai h1 (ai h2 (ai h3 (ai h4 (ai h5 trivial)))))),by unfold f31_F0; rw [e0,e1,e2]; show _=_; kernel_rfl⟩
theorem f31_s0_ttf (x0:Sgn)(s1:ByteArray)(X:Ext)(call:Caller)(lf:Nat)(S0:Nat→List Ob)(o5:Nat→AV)(i0:Nat)(a:ByteArray)(c:List ByteArray)(r13:List AV)(d:ByteArray)(r22:List AV)
 (h0:decide ((↑i0:Int)<(↑x0.preds.length:Int))=true)
 (h1:keep (S0 i0) (indexAddrv Tryd.prog 24 (S0 i0) (pQ x0.preds) (i6 (↑i0:Int)))=some (AV.eaddr (st a::sQ c::r13),S0 i0))
 (h2:((↑c.length:Int) == 1)=true)
 (h3:keep (S0 i0) (indexAddrv Tryd.prog 22 (S0 i0) (sQ c) (i6 0))=some (AV.eaddr (st d::r22),S0 i0))
 (h4:(ByteArray.toList d == ByteArray.toList s1)=false)
 (e0:o5 (i0 + 1)=o5 i0)
 (e1:(↑(i0 + 1):Int)=w6 ((↑i0:Int) + 1))
 (e2:S0 (i0 + 1)=S0 i0):∃ Sx,vexec Tryd.prog X call lf 0 fg31 (loopN Tryd.f31 0) (f31_F0 x0 s1 S0 o5 i0)=some (Ex.normal,Sx)∧forget f31_D0 Sx=(f31_F0 x0 s1 S0 o5 (i0 + 1)) :=
  ⟨stOf 34 [27,28,29,30,31] [(0,AV.agg (gQ x0)),(1,st s1),(2,AV.ref 0 0),(4,AV.list LK.nil 0 0 []),(5,o5 i0),(7,AV.eaddr [st a,sQ c]),(8,AV.ref 0 2),(9,pQ x0.preds),(10,i6 (↑x0.preds.length:Int)),(11,i6 (w6 ((↑i0:Int) + 1))),(12,bo true),(13,AV.eaddr (st a::sQ c::r13)),(14,AV.agg [st a,sQ c]),(15,AV.eaddr [sQ c]),(16,sQ c),(17,i6 (↑c.length:Int)),(18,bo true),(19,bo true),(20,AV.eaddr [sQ c]),(21,sQ c),(22,AV.eaddr (st d::r22)),(23,st d),(24,st s1),(25,bo false),(26,bo false),(32,i6 (w6 ((↑i0:Int) + 1)))] (S0 i0),around_sound (ans:=[(1,Ans.b true),(4,Ans.v (AV.eaddr (st a::sQ c::r13))),(10,Ans.b true),(17,Ans.v (AV.eaddr (st d::r22))),(23,Ans.b false)]) (by kernel_rfl) (ai h0 (ai h1 (ai h2 (ai h3 (ai h4 trivial))))),by unfold f31_F0; rw [e0,e1,e2]; show _=_; kernel_rfl⟩
theorem f31_s0_tf (x0:Sgn)(s1:ByteArray)(X:Ext)(call:Caller)(lf:Nat)(S0:Nat→List Ob)(o5:Nat→AV)(i0:Nat)(a:ByteArray)(c:List ByteArray)(r13:List AV)
 (h0:decide ((↑i0:Int)<(↑x0.preds.length:Int))=true)
 (h1:keep (S0 i0) (indexAddrv Tryd.prog 24 (S0 i0) (pQ x0.preds) (i6 (↑i0:Int)))=some (AV.eaddr (st a::sQ c::r13),S0 i0))
 (h2:((↑c.length:Int) == 1)=false)
 (e0:o5 (i0 + 1)=o5 i0)
 (e1:(↑(i0 + 1):Int)=w6 ((↑i0:Int) + 1))
 (e2:S0 (i0 + 1)=S0 i0):∃ Sx,vexec Tryd.prog X call lf 0 fg31 (loopN Tryd.f31 0) (f31_F0 x0 s1 S0 o5 i0)=some (Ex.normal,Sx)∧forget f31_D0 Sx=(f31_F0 x0 s1 S0 o5 (i0 + 1)) :=
  ⟨stOf 34 [27,28,29,30,31] [(0,AV.agg (gQ x0)),(1,st s1),(2,AV.ref 0 0),(4,AV.list LK.nil 0 0 []),(5,o5 i0),(7,AV.eaddr [st a,sQ c]),(8,AV.ref 0 2),(9,pQ x0.preds),(10,i6 (↑x0.preds.length:Int)),(11,i6 (w6 ((↑i0:Int) + 1))),(12,bo true),(13,AV.eaddr (st a::sQ c::r13)),(14,AV.agg [st a,sQ c]),(15,AV.eaddr [sQ c]),(16,sQ c),(17,i6 (↑c.length:Int)),(18,bo false),(19,bo false),(26,bo false),(32,i6 (w6 ((↑i0:Int) + 1)))] (S0 i0),around_sound (ans:=[(1,Ans.b true),(4,Ans.v (AV.eaddr (st a::sQ c::r13))),(10,Ans.b false)]) (by kernel_rfl) (ai h0 (ai h1 (ai h2 trivial))),by unfold f31_F0; rw [e0,e1,e2]; show _=_; kernel_rfl⟩
def f31_S1 (x0:Sgn)(s1:ByteArray)(S0:Nat→List Ob)(o5:Nat→AV)(i0:Nat):St :=
  stOf 34 [7,13,14,15,16,17,18,19,20,21,22,23,24,25,26,27,28,29,30,31,32] [(0,AV.agg (gQ x0)),(1,st s1),(2,AV.ref 0 0),(4,AV.list LK.nil 0 0 []),(5,o5 i0),(8,AV.ref 0 2),(9,pQ x0.preds),(10,i6 (↑x0.preds.length:Int)),(11,i6 (↑i0:Int)),(12,bo false)] (S0 i0)
theorem f31_r0_f (x0:Sgn)(s1:ByteArray)(X:Ext)(call:Caller)(lf:Nat)(S0:Nat→List Ob)(o5:Nat→AV)(i0:Nat)
 (h0:decide ((↑i0:Int)<(↑x0.preds.length:Int))=false):vexec Tryd.prog X call lf 0 fg31 (loopN Tryd.f31 0) (f31_F0 x0 s1 S0 o5 i0)=some (Ex.exit 0,(f31_S1 x0 s1 S0 o5 i0)) :=
  around_sound (ans:=[(1,Ans.b false)]) (by kernel_rfl) (ai h0 trivial)
theorem f31_plf (x0:Sgn)(s1:ByteArray)(X:Ext)(call:Caller)(lf:Nat)(S0:Nat→List Ob)(o5:Nat→AV)(i0:Nat)(rE:AV)(sE:List Ob)
 (h0:vexec Tryd.prog X call lf 0 fg31 (Code.loop (loopN Tryd.f31 0)) (f31_S0 x0 s1)=some (Ex.exit 0,(f31_S1 x0 s1 S0 o5 i0)))
 (h1:vend1 [] 0 (S0 i0) [o5 i0]=some (rE,sE)):vbody Tryd.prog X call lf fg31 Tryd.f31 (codeOf Tryd.f31) [AV.agg (sgnC x0),st s1] [] 0=some (rE,sE) :=
  along_sound (ans:=[(10,Ans.l (Ex.exit 0) (f31_S1 x0 s1 S0 o5 i0)),(14,Ans.c rE sE)]) (by kernel_rfl) (ai h0 (ai h1 trivial))
def f31_o0 (x0:Sgn)(s1:ByteArray)(i0:Nat)(a:List ByteArray)(b:ByteArray):Nat :=
  (match decide ((↑i0:Int)<(↑x0.preds.length:Int)) with
  | true=>(match ((↑a.length:Int) == 1) with
    | true=>(match (ByteArray.toList b == ByteArray.toList s1) with
      | true=>0
      | false=>0)
    | false=>0)
  | false=>1)
theorem f31_B0 (x0:Sgn)(s1:ByteArray)(X:Ext)(call:Caller)(lf:Nat)(S0:Nat→List Ob)(o5:Nat→AV)(i0:Nat)(a:ByteArray)(b:List ByteArray)(r13:List AV)(c:ByteArray)(r22:List AV)(v31:AV)(s31:List Ob)
 (g0:decide ((↑i0:Int)<(↑x0.preds.length:Int))=true→keep (S0 i0) (indexAddrv Tryd.prog 24 (S0 i0) (pQ x0.preds) (i6 (↑i0:Int)))=some (AV.eaddr (st a::sQ b::r13),S0 i0))
 (g1:decide ((↑i0:Int)<(↑x0.preds.length:Int))=true→((↑b.length:Int) == 1)=true→keep (S0 i0) (indexAddrv Tryd.prog 22 (S0 i0) (sQ b) (i6 0))=some (AV.eaddr (st c::r22),S0 i0))
 (g2:decide ((↑i0:Int)<(↑x0.preds.length:Int))=true→((↑b.length:Int) == 1)=true→(ByteArray.toList c == ByteArray.toList s1)=true→appendv Tryd.prog 22 (S0 i0) 0 (o5 i0) (AV.list LK.clip 1 1 [st a])=some (v31,s31))
 (e0:decide ((↑i0:Int)<(↑x0.preds.length:Int))=true→((↑b.length:Int) == 1)=true→(ByteArray.toList c == ByteArray.toList s1)=true→o5 (i0 + 1)=v31)
 (e1:decide ((↑i0:Int)<(↑x0.preds.length:Int))=true→(↑(i0 + 1):Int)=w6 ((↑i0:Int) + 1))
 (e2:decide ((↑i0:Int)<(↑x0.preds.length:Int))=true→((↑b.length:Int) == 1)=true→(ByteArray.toList c == ByteArray.toList s1)=true→S0 (i0 + 1)=s31)
 (e3:decide ((↑i0:Int)<(↑x0.preds.length:Int))=true→((↑b.length:Int) == 1)=true→(ByteArray.toList c == ByteArray.toList s1)=false→o5 (i0 + 1)=o5 i0)
 (e4:decide ((↑i0:Int)<(↑x0.preds.length:Int))=true→((↑b.length:Int) == 1)=true→(ByteArray.toList c == ByteArray.toList s1)=false→S0 (i0 + 1)=S0 i0)
 (e5:decide ((↑i0:Int)<(↑x0.preds.length:Int))=true→((↑b.length:Int) == 1)=false→o5 (i0 + 1)=o5 i0)
 (e6:decide ((↑i0:Int)<(↑x0.preds.length:Int))=true→((↑b.length:Int) == 1)=false→S0 (i0 + 1)=S0 i0) :
    (f31_o0 x0 s1 i0 b c=0→∃ Sx,vexec Tryd.prog X call lf 0 fg31 (loopN Tryd.f31 0) (f31_F0 x0 s1 S0 o5 i0)=some (Ex.normal,Sx)∧forget f31_D0 Sx=(f31_F0 x0 s1 S0 o5 (i0 + 1)))∧(f31_o0 x0 s1 i0 b c=1→vexec Tryd.prog X call lf 0 fg31 (loopN Tryd.f31 0) (f31_F0 x0 s1 S0 o5 i0)=some (Ex.exit 0,(f31_S1 x0 s1 S0 o5 i0))):=by
  unfold f31_o0
  cases c0:decide ((↑i0:Int)<(↑x0.preds.length:Int)) with
  | true =>
    cases c1:((↑b.length:Int) == 1) with
    | true =>
      cases c2:(ByteArray.toList c == ByteArray.toList s1) with
      | true =>
        exact ⟨fun _=>f31_s0_ttt x0 s1 X call lf S0 o5 i0 a b r13 c r22 v31 s31 c0 (g0 c0) c1 (g1 c0 c1) c2 (g2 c0 c1 c2) (e0 c0 c1 c2) (e1 c0) (e2 c0 c1 c2),fun h=>nq h⟩
      | false =>
        exact ⟨fun _=>f31_s0_ttf x0 s1 X call lf S0 o5 i0 a b r13 c r22 c0 (g0 c0) c1 (g1 c0 c1) c2 (e3 c0 c1 c2) (e1 c0) (e4 c0 c1 c2),fun h=>nq h⟩
    | false =>
      exact ⟨fun _=>f31_s0_tf x0 s1 X call lf S0 o5 i0 a b r13 c0 (g0 c0) c1 (e5 c0 c1) (e1 c0) (e6 c0 c1),fun h=>nq h⟩
  | false =>
    exact ⟨fun h=>nq h,fun _=>f31_r0_f x0 s1 X call lf S0 o5 i0 c0⟩
theorem f31_X0 (x0:Sgn)(s1:ByteArray)(X:Ext)(call:Caller)(lf:Nat)(S0:Nat→List Ob)(o5:Nat→AV)(i0:Nat)(a:ByteArray)(b:List ByteArray)(r13:List AV)(c:ByteArray)(r22:List AV)(v31:AV)(s31:List Ob)
 (g0:decide ((↑i0:Int)<(↑x0.preds.length:Int))=true→keep (S0 i0) (indexAddrv Tryd.prog 24 (S0 i0) (pQ x0.preds) (i6 (↑i0:Int)))=some (AV.eaddr (st a::sQ b::r13),S0 i0))
 (g1:decide ((↑i0:Int)<(↑x0.preds.length:Int))=true→((↑b.length:Int) == 1)=true→keep (S0 i0) (indexAddrv Tryd.prog 22 (S0 i0) (sQ b) (i6 0))=some (AV.eaddr (st c::r22),S0 i0))
 (g2:decide ((↑i0:Int)<(↑x0.preds.length:Int))=true→((↑b.length:Int) == 1)=true→(ByteArray.toList c == ByteArray.toList s1)=true→appendv Tryd.prog 22 (S0 i0) 0 (o5 i0) (AV.list LK.clip 1 1 [st a])=some (v31,s31)) :
    (f31_o0 x0 s1 i0 b c=1→vexec Tryd.prog X call lf 0 fg31 (loopN Tryd.f31 0) (f31_F0 x0 s1 S0 o5 i0)=some (Ex.exit 0,(f31_S1 x0 s1 S0 o5 i0))):=by
  unfold f31_o0
  cases c0:decide ((↑i0:Int)<(↑x0.preds.length:Int)) with
  | true =>
    cases c1:((↑b.length:Int) == 1) with
    | true =>
      cases c2:(ByteArray.toList c == ByteArray.toList s1) with
      | true =>
        exact fun h=>nq h
      | false =>
        exact fun h=>nq h
    | false =>
      exact fun h=>nq h
  | false =>
    exact fun _=>f31_r0_f x0 s1 X call lf S0 o5 i0 c0
theorem f31_M (x0:Sgn)(s1:ByteArray)(S0:Nat→List Ob)(o5:Nat→AV)(X:Ext)(call:Caller)(lf n:Nat)(a:Nat→ByteArray)(b:Nat→List ByteArray)(r13:Nat→List AV)(c:Nat→ByteArray)(r22:Nat→List AV)(v31:Nat→AV)(s31:Nat→List Ob)
 (z0:o5 0=AV.list LK.nil 0 0 [])
 (z1:S0 0=[Ob.cells (gQ x0)])
 (hn:n<lf)
 (g0:∀ i0,i0 ≤ n→decide ((↑i0:Int)<(↑x0.preds.length:Int))=true→keep (S0 i0) (indexAddrv Tryd.prog 24 (S0 i0) (pQ x0.preds) (i6 (↑i0:Int)))=some (AV.eaddr (st (a i0)::lro (List.length (b i0)) 1 (List.map st (b i0))::(r13 i0)),S0 i0))
 (g1:∀ i0,i0 ≤ n→decide ((↑i0:Int)<(↑x0.preds.length:Int))=true→((↑(List.length (b i0)):Int) == 1)=true→keep (S0 i0) (indexAddrv Tryd.prog 22 (S0 i0) (lro (List.length (b i0)) 1 (List.map st (b i0))) (i6 0))=some (AV.eaddr (st (c i0)::(r22 i0)),S0 i0))
 (g2:∀ i0,i0 ≤ n→decide ((↑i0:Int)<(↑x0.preds.length:Int))=true→((↑(List.length (b i0)):Int) == 1)=true→(ByteArray.toList (c i0) == ByteArray.toList s1)=true→appendv Tryd.prog 22 (S0 i0) 0 (o5 i0) (AV.list LK.clip 1 1 [st (a i0)])=some ((v31 i0),(s31 i0)))
 (e0:∀ i0,i0<n→decide ((↑i0:Int)<(↑x0.preds.length:Int))=true→((↑(List.length (b i0)):Int) == 1)=true→(ByteArray.toList (c i0) == ByteArray.toList s1)=true→o5 (i0 + 1)=(v31 i0))
 (e1:∀ i0,i0<n→decide ((↑i0:Int)<(↑x0.preds.length:Int))=true→(↑(i0 + 1):Int)=w6 ((↑i0:Int) + 1))
 (e2:∀ i0,i0<n→decide ((↑i0:Int)<(↑x0.preds.length:Int))=true→((↑(List.length (b i0)):Int) == 1)=true→(ByteArray.toList (c i0) == ByteArray.toList s1)=true→S0 (i0 + 1)=(s31 i0))
 (e3:∀ i0,i0<n→decide ((↑i0:Int)<(↑x0.preds.length:Int))=true→((↑(List.length (b i0)):Int) == 1)=true→(ByteArray.toList (c i0) == ByteArray.toList s1)=false→o5 (i0 + 1)=o5 i0)
 (e4:∀ i0,i0<n→decide ((↑i0:Int)<(↑x0.preds.length:Int))=true→((↑(List.length (b i0)):Int) == 1)=true→(ByteArray.toList (c i0) == ByteArray.toList s1)=false→S0 (i0 + 1)=S0 i0)
 (e5:∀ i0,i0<n→decide ((↑i0:Int)<(↑x0.preds.length:Int))=true→((↑(List.length (b i0)):Int) == 1)=false→o5 (i0 + 1)=o5 i0)
 (e6:∀ i0,i0<n→decide ((↑i0:Int)<(↑x0.preds.length:Int))=true→((↑(List.length (b i0)):Int) == 1)=false→S0 (i0 + 1)=S0 i0)
 (hz:∀ j,j<n→f31_o0 x0 s1 j (b j) (c j)=0) :
    (f31_o0 x0 s1 n (b n) (c n)=1→∀ (rE:AV),∀ (sE:List Ob),vend1 [] 0 (S0 n) [o5 n]=some (rE,sE)→vbody Tryd.prog X call lf fg31 Tryd.f31 (codeOf Tryd.f31) [AV.agg (sgnC x0),st s1] [] 0=some (rE,sE)):=by
  have key:∀ j,j<n→_:=fun j hj=>(f31_B0 x0 s1 X call lf S0 o5 j (a j) (b j) (r13 j) (c j) (r22 j) (v31 j) (s31 j) (g0 j (Nat.le_of_lt hj)) (g1 j (Nat.le_of_lt hj)) (g2 j (Nat.le_of_lt hj)) (e0 j hj) (e1 j hj) (e2 j hj) (e3 j hj) (e4 j hj) (e5 j hj) (e6 j hj)).1 (hz j hj)
  have kn:=f31_X0 x0 s1 X call lf S0 o5 n (a n) (b n) (r13 n) (c n) (r22 n) (v31 n) (s31 n) (g0 n (Nat.le_refl n)) (g1 n (Nat.le_refl n)) (g2 n (Nat.le_refl n))
  exact fun hk rE sE q0=>f31_plf x0 s1 X call lf S0 o5 n rE sE (f31_L0 x0 s1 S0 o5 X call lf n _ _ z0 z1 hn key (kn hk) (by simp)) q0
def fg33:Nat→List Nat
  | 5004=>[1]
  | 5009=>[1]
  | _=>[]
def f33_F0 (x0:Sgn)(v11:AV)(m13:Nat)(c13:List AV)(S0:Nat→List Ob)(o3:Nat→AV)(i0:Nat):St :=
  stOf 39 [5,16,17,18,19,20,21,22,23,24] [(0,AV.agg (gQ x0)),(1,AV.ref 0 0),(2,AV.list LK.nil 0 0 []),(3,o3 i0),(8,AV.list LK.clip 0 1 []),(9,AV.ref 0 0),(10,sQ x0.sorts),(11,v11),(12,AV.ref 0 1),(13,lro m13 2 c13),(14,i6 (↑m13:Int)),(15,i6 (↑i0:Int))] (S0 i0)
def f33_S0 (x0:Sgn)(v11:AV)(s11:List Ob)(m13:Nat)(c13:List AV):St :=
  stOf 39 [] [(0,AV.agg (gQ x0)),(1,AV.ref 0 0),(2,AV.list LK.nil 0 0 []),(3,v11),(8,AV.list LK.clip 0 1 []),(9,AV.ref 0 0),(10,sQ x0.sorts),(11,v11),(12,AV.ref 0 1),(13,lro m13 2 c13),(14,i6 (↑m13:Int)),(15,i6 0)] s11
abbrev f33_D0:List Nat:=[24,23,22,21,20,19,5,18,17,16]
theorem f33_L0 (x0:Sgn)(v11:AV)(s11:List Ob)(m13:Nat)(c13:List AV)(S0:Nat→List Ob)(o3:Nat→AV)(X:Ext)(call:Caller)(lf n:Nat)(x:Ex) (S' : St)
 (e0:o3 0=v11)
 (e1:S0 0=s11)
 (hn:n<lf)
 (hs:∀ j,j<n→∃ Sx,vexec Tryd.prog X call lf 0 fg33 (loopN Tryd.f33 0) (f33_F0 x0 v11 m13 c13 S0 o3 j)=some (Ex.normal,Sx)∧forget f33_D0 Sx=(f33_F0 x0 v11 m13 c13 S0 o3 (j + 1)))
 (he:vexec Tryd.prog X call lf 0 fg33 (loopN Tryd.f33 0) (f33_F0 x0 v11 m13 c13 S0 o3 n)=some (x,S'))
 (hx:x ≠ Ex.normal):vexec Tryd.prog X call lf 0 fg33 (Go.Code.loop (loopN Tryd.f33 0)) (f33_S0 x0 v11 s11 m13 c13)=some (x,S') :=
  loop_runK (by kernel_rfl) (fun j=>(f33_F0 x0 v11 m13 c13 S0 o3 j)) n hn (by show forget f33_D0 (f33_S0 x0 v11 s11 m13 c13)=(f33_F0 x0 v11 m13 c13 S0 o3 0); unfold f33_F0; rw [e0,e1]; show _=_; kernel_rfl) hs he hx
theorem f33_s0_t (x0:Sgn)(X:Ext)(call:Caller)(lf:Nat)(v11:AV)(m13:Nat)(c13:List AV)(S0:Nat→List Ob)(o3:Nat→AV)(i0:Nat)(a d:ByteArray)(r17:List AV)(v23:AV)(s23:List Ob)
 (h0:decide ((↑i0:Int)<(↑m13:Int))=true)
 (h1:keep (S0 i0) (indexAddrv Tryd.prog 23 (S0 i0) (lro m13 2 c13) (i6 (↑i0:Int)))=some (AV.eaddr (st a::st d::r17),S0 i0))
 (h2:appendv Tryd.prog 22 (S0 i0) 0 (o3 i0) (AV.list LK.clip 1 1 [st a])=some (v23,s23))
 (e0:o3 (i0 + 1)=v23)
 (e1:(↑(i0 + 1):Int)=w6 ((↑i0:Int) + 1))
 (e2:S0 (i0 + 1)=s23):∃ Sx,vexec Tryd.prog X call lf 0 fg33 (loopN Tryd.f33 0) (f33_F0 x0 v11 m13 c13 S0 o3 i0)=some (Ex.normal,Sx)∧forget f33_D0 Sx=(f33_F0 x0 v11 m13 c13 S0 o3 (i0 + 1)) :=
  ⟨stOf 39 [] [(0,AV.agg (gQ x0)),(1,AV.ref 0 0),(2,AV.list LK.nil 0 0 []),(3,v23),(5,AV.eaddr [st a,st d]),(8,AV.list LK.clip 0 1 []),(9,AV.ref 0 0),(10,sQ x0.sorts),(11,v11),(12,AV.ref 0 1),(13,lro m13 2 c13),(14,i6 (↑m13:Int)),(15,i6 (w6 ((↑i0:Int) + 1))),(16,bo true),(17,AV.eaddr (st a::st d::r17)),(18,AV.agg [st a,st d]),(19,o3 i0),(20,AV.eaddr [st a,st d]),(21,st a),(22,AV.list LK.clip 1 1 [st a]),(23,v23),(24,i6 (w6 ((↑i0:Int) + 1)))] s23,around_sound (ans:=[(1,Ans.b true),(4,Ans.v (AV.eaddr (st a::st d::r17))),(11,Ans.c v23 s23)]) (by kernel_rfl) (ai h0 (ai h1 (ai h2 trivial))),by unfold f33_F0; rw [e0,e1,e2]; show _=_; kernel_rfl⟩
def f33_S1 (x0:Sgn)(v11:AV)(m13:Nat)(c13:List AV)(S0:Nat→List Ob)(o3:Nat→AV)(i0:Nat):St :=
  stOf 39 [5,17,18,19,20,21,22,23,24] [(0,AV.agg (gQ x0)),(1,AV.ref 0 0),(2,AV.list LK.nil 0 0 []),(3,o3 i0),(8,AV.list LK.clip 0 1 []),(9,AV.ref 0 0),(10,sQ x0.sorts),(11,v11),(12,AV.ref 0 1),(13,lro m13 2 c13),(14,i6 (↑m13:Int)),(15,i6 (↑i0:Int)),(16,bo false)] (S0 i0)
theorem f33_r0_f (x0:Sgn)(X:Ext)(call:Caller)(lf:Nat)(v11:AV)(m13:Nat)(c13:List AV)(S0:Nat→List Ob)(o3:Nat→AV)(i0:Nat)
 (h0:decide ((↑i0:Int)<(↑m13:Int))=false):vexec Tryd.prog X call lf 0 fg33 (loopN Tryd.f33 0) (f33_F0 x0 v11 m13 c13 S0 o3 i0)=some (Ex.exit 0,(f33_S1 x0 v11 m13 c13 S0 o3 i0)) :=
  around_sound (ans:=[(1,Ans.b false)]) (by kernel_rfl) (ai h0 trivial)
def f33_F1 (x0:Sgn)(v11:AV)(m13:Nat)(c13:List AV)(i0 m26:Nat)(c26:List AV)(S1:Nat→List Ob)(o3q1:Nat→AV)(i1:Nat):St :=
  stOf 39 [5,7,17,18,19,20,21,22,23,24,29,30,31,32,33,34,35,36,37] [(0,AV.agg (gQ x0)),(1,AV.ref 0 0),(2,AV.list LK.nil 0 0 []),(3,o3q1 i1),(8,AV.list LK.clip 0 1 []),(9,AV.ref 0 0),(10,sQ x0.sorts),(11,v11),(12,AV.ref 0 1),(13,lro m13 2 c13),(14,i6 (↑m13:Int)),(15,i6 (↑i0:Int)),(16,bo false),(25,AV.ref 0 2),(26,lro m26 2 c26),(27,i6 (↑m26:Int)),(28,i6 (↑i1:Int))] (S1 i1)
def f33_S2 (x0:Sgn)(v11:AV)(m13:Nat)(c13:List AV)(S0:Nat→List Ob)(o3:Nat→AV)(i0 m26:Nat)(c26:List AV):St :=
  stOf 39 [5,17,18,19,20,21,22,23,24] [(0,AV.agg (gQ x0)),(1,AV.ref 0 0),(2,AV.list LK.nil 0 0 []),(3,o3 i0),(8,AV.list LK.clip 0 1 []),(9,AV.ref 0 0),(10,sQ x0.sorts),(11,v11),(12,AV.ref 0 1),(13,lro m13 2 c13),(14,i6 (↑m13:Int)),(15,i6 (↑i0:Int)),(16,bo false),(25,AV.ref 0 2),(26,lro m26 2 c26),(27,i6 (↑m26:Int)),(28,i6 0)] (S0 i0)
abbrev f33_D1:List Nat:=[37,36,35,34,33,32,7,31,30,29]
theorem f33_L1 (x0:Sgn)(v11:AV)(m13:Nat)(c13:List AV)(S0:Nat→List Ob)(o3:Nat→AV)(i0 m26:Nat)(c26:List AV)(S1:Nat→List Ob)(o3q1:Nat→AV)(X:Ext)(call:Caller)(lf n:Nat)(x:Ex) (S' : St)
 (e0:o3q1 0=o3 i0)
 (e1:S1 0=S0 i0)
 (hn:n<lf)
 (hs:∀ j,j<n→∃ Sx,vexec Tryd.prog X call lf 0 fg33 (loopN Tryd.f33 1) (f33_F1 x0 v11 m13 c13 i0 m26 c26 S1 o3q1 j)=some (Ex.normal,Sx)∧forget f33_D1 Sx=(f33_F1 x0 v11 m13 c13 i0 m26 c26 S1 o3q1 (j + 1)))
 (he:vexec Tryd.prog X call lf 0 fg33 (loopN Tryd.f33 1) (f33_F1 x0 v11 m13 c13 i0 m26 c26 S1 o3q1 n)=some (x,S'))
 (hx:x ≠ Ex.normal):vexec Tryd.prog X call lf 0 fg33 (Go.Code.loop (loopN Tryd.f33 1)) (f33_S2 x0 v11 m13 c13 S0 o3 i0 m26 c26)=some (x,S') :=
  loop_runK (by kernel_rfl) (fun j=>(f33_F1 x0 v11 m13 c13 i0 m26 c26 S1 o3q1 j)) n hn (by show forget f33_D1 (f33_S2 x0 v11 m13 c13 S0 o3 i0 m26 c26)=(f33_F1 x0 v11 m13 c13 i0 m26 c26 S1 o3q1 0); unfold f33_F1; rw [e0,e1]; show _=_; kernel_rfl) hs he hx
theorem f33_s1_t (x0:Sgn)(X:Ext)(call:Caller)(lf:Nat)(v11:AV)(m13:Nat)(c13:List AV)(i0 m26:Nat)(c26:List AV)(S1:Nat→List Ob)(o3q1:Nat→AV)(i1:Nat)(a:ByteArray)(d:List ByteArray)(r30:List AV)(v36:AV)(s36:List Ob)
 (h0:decide ((↑i1:Int)<(↑m26:Int))=true)
 (h1:keep (S1 i1) (indexAddrv Tryd.prog 24 (S1 i1) (lro m26 2 c26) (i6 (↑i1:Int)))=some (AV.eaddr (st a::sQ d::r30),S1 i1))
 (h2:appendv Tryd.prog 22 (S1 i1) 0 (o3q1 i1) (AV.list LK.clip 1 1 [st a])=some (v36,s36))
 (e0:o3q1 (i1 + 1)=v36)
 (e1:(↑(i1 + 1):Int)=w6 ((↑i1:Int) + 1))
 (e2:S1 (i1 + 1)=s36):∃ Sx,vexec Tryd.prog X call lf 0 fg33 (loopN Tryd.f33 1) (f33_F1 x0 v11 m13 c13 i0 m26 c26 S1 o3q1 i1)=some (Ex.normal,Sx)∧forget f33_D1 Sx=(f33_F1 x0 v11 m13 c13 i0 m26 c26 S1 o3q1 (i1 + 1)) :=
  ⟨stOf 39 [5,17,18,19,20,21,22,23,24] [(0,AV.agg (gQ x0)),(1,AV.ref 0 0),(2,AV.list LK.nil 0 0 []),(3,v36),(7,AV.eaddr [st a,sQ d]),(8,AV.list LK.clip 0 1 []),(9,AV.ref 0 0),(10,sQ x0.sorts),(11,v11),(12,AV.ref 0 1),(13,lro m13 2 c13),(14,i6 (↑m13:Int)),(15,i6 (↑i0:Int)),(16,bo false),(25,AV.ref 0 2),(26,lro m26 2 c26),(27,i6 (↑m26:Int)),(28,i6 (w6 ((↑i1:Int) + 1))),(29,bo true),(30,AV.eaddr (st a::sQ d::r30)),(31,AV.agg [st a,sQ d]),(32,o3q1 i1),(33,AV.eaddr [st a,sQ d]),(34,st a),(35,AV.list LK.clip 1 1 [st a]),(36,v36),(37,i6 (w6 ((↑i1:Int) + 1)))] s36,around_sound (ans:=[(1,Ans.b true),(4,Ans.v (AV.eaddr (st a::sQ d::r30))),(11,Ans.c v36 s36)]) (by kernel_rfl) (ai h0 (ai h1 (ai h2 trivial))),by unfold f33_F1; rw [e0,e1,e2]; show _=_; kernel_rfl⟩
def f33_S3 (x0:Sgn)(v11:AV)(m13:Nat)(c13:List AV)(i0 m26:Nat)(c26:List AV)(S1:Nat→List Ob)(o3q1:Nat→AV)(i1:Nat):St :=
  stOf 39 [5,7,17,18,19,20,21,22,23,24,30,31,32,33,34,35,36,37] [(0,AV.agg (gQ x0)),(1,AV.ref 0 0),(2,AV.list LK.nil 0 0 []),(3,o3q1 i1),(8,AV.list LK.clip 0 1 []),(9,AV.ref 0 0),(10,sQ x0.sorts),(11,v11),(12,AV.ref 0 1),(13,lro m13 2 c13),(14,i6 (↑m13:Int)),(15,i6 (↑i0:Int)),(16,bo false),(25,AV.ref 0 2),(26,lro m26 2 c26),(27,i6 (↑m26:Int)),(28,i6 (↑i1:Int)),(29,bo false)] (S1 i1)
theorem f33_r1_f (x0:Sgn)(X:Ext)(call:Caller)(lf:Nat)(v11:AV)(m13:Nat)(c13:List AV)(i0 m26:Nat)(c26:List AV)(S1:Nat→List Ob)(o3q1:Nat→AV)(i1:Nat)
 (h0:decide ((↑i1:Int)<(↑m26:Int))=false):vexec Tryd.prog X call lf 0 fg33 (loopN Tryd.f33 1) (f33_F1 x0 v11 m13 c13 i0 m26 c26 S1 o3q1 i1)=some (Ex.exit 2,(f33_S3 x0 v11 m13 c13 i0 m26 c26 S1 o3q1 i1)) :=
  around_sound (ans:=[(1,Ans.b false)]) (by kernel_rfl) (ai h0 trivial)
theorem f33_plflf (x0:Sgn)(X:Ext)(call:Caller)(lf:Nat)(v11:AV)(s11:List Ob)(m13:Nat)(c13:List AV)(S0:Nat→List Ob)(o3:Nat→AV)(i0 m26:Nat)(c26:List AV)(S1:Nat→List Ob)(o3q1:Nat→AV)(i1:Nat)(rE:AV)(sE:List Ob)
 (h0:appendv Tryd.prog 22 [Ob.cells (gQ x0)] 0 (AV.list LK.clip 0 1 []) (sQ x0.sorts)=some (v11,s11))
 (h1:kpq s11 (loadv Tryd.prog 23 s11 (AV.ref 0 1)) (lro m13 2 c13))
 (h2:vexec Tryd.prog X call lf 0 fg33 (Code.loop (loopN Tryd.f33 0)) (f33_S0 x0 v11 s11 m13 c13)=some (Ex.exit 0,(f33_S1 x0 v11 m13 c13 S0 o3 i0)))
 (h3:keep (S0 i0) (loadv Tryd.prog 24 (S0 i0) (AV.ref 0 2))=some (lro m26 2 c26,S0 i0))
 (h4:vexec Tryd.prog X call lf 0 fg33 (Code.loop (loopN Tryd.f33 1)) (f33_S2 x0 v11 m13 c13 S0 o3 i0 m26 c26)=some (Ex.exit 2,(f33_S3 x0 v11 m13 c13 i0 m26 c26 S1 o3q1 i1)))
 (h5:vend1 [] 0 (S1 i1) [o3q1 i1]=some (rE,sE)):vbody Tryd.prog X call lf fg33 Tryd.f33 (codeOf Tryd.f33) [AV.agg (sgnC x0)] [] 0=some (rE,sE) :=
  along_sound (ans:=[(7,Ans.c v11 s11),(11,Ans.v (lro m13 2 c13)),(14,Ans.l (Ex.exit 0) (f33_S1 x0 v11 m13 c13 S0 o3 i0)),(17,Ans.v (lro m26 2 c26)),(20,Ans.l (Ex.exit 2) (f33_S3 x0 v11 m13 c13 i0 m26 c26 S1 o3q1 i1)),(24,Ans.c rE sE)]) (by kernel_rfl) (ai h0 (ai h1 (ai h2 (ai h3 (ai h4 (ai h5 trivial))))))
def f33_o0 (m13 i0:Nat):Nat :=
  (match decide ((↑i0:Int)<(↑m13:Int)) with
  | true=>0
  | false=>1)
theorem f33_B0 (x0:Sgn)(X:Ext)(call:Caller)(lf:Nat)(v11:AV)(m13:Nat)(c13:List AV)(S0:Nat→List Ob)(o3:Nat→AV)(i0:Nat)(a b:ByteArray)(r17:List AV)(v23:AV)(s23:List Ob)
 (g0:decide ((↑i0:Int)<(↑m13:Int))=true→keep (S0 i0) (indexAddrv Tryd.prog 23 (S0 i0) (lro m13 2 c13) (i6 (↑i0:Int)))=some (AV.eaddr (st a::st b::r17),S0 i0))
 (g1:decide ((↑i0:Int)<(↑m13:Int))=true→appendv Tryd.prog 22 (S0 i0) 0 (o3 i0) (AV.list LK.clip 1 1 [st a])=some (v23,s23))
 (e0:decide ((↑i0:Int)<(↑m13:Int))=true→o3 (i0 + 1)=v23)
 (e1:decide ((↑i0:Int)<(↑m13:Int))=true→(↑(i0 + 1):Int)=w6 ((↑i0:Int) + 1))
 (e2:decide ((↑i0:Int)<(↑m13:Int))=true→S0 (i0 + 1)=s23) :
    (f33_o0 m13 i0=0→∃ Sx,vexec Tryd.prog X call lf 0 fg33 (loopN Tryd.f33 0) (f33_F0 x0 v11 m13 c13 S0 o3 i0)=some (Ex.normal,Sx)∧forget f33_D0 Sx=(f33_F0 x0 v11 m13 c13 S0 o3 (i0 + 1)))∧(f33_o0 m13 i0=1→vexec Tryd.prog X call lf 0 fg33 (loopN Tryd.f33 0) (f33_F0 x0 v11 m13 c13 S0 o3 i0)=some (Ex.exit 0,(f33_S1 x0 v11 m13 c13 S0 o3 i0))):=by
  unfold f33_o0
  cases c0:decide ((↑i0:Int)<(↑m13:Int)) with
  | true =>
    exact ⟨fun _=>f33_s0_t x0 X call lf v11 m13 c13 S0 o3 i0 a b r17 v23 s23 c0 (g0 c0) (g1 c0) (e0 c0) (e1 c0) (e2 c0),fun h=>nq h⟩
  | false =>
    exact ⟨fun h=>nq h,fun _=>f33_r0_f x0 X call lf v11 m13 c13 S0 o3 i0 c0⟩
def f33_o1 (m26 i1:Nat):Nat :=
  (match decide ((↑i1:Int)<(↑m26:Int)) with
  | true=>0
  | false=>1)
theorem f33_B1 (x0:Sgn)(X:Ext)(call:Caller)(lf:Nat)(v11:AV)(m13:Nat)(c13:List AV)(i0 m26:Nat)(c26:List AV)(S1:Nat→List Ob)(o3q1:Nat→AV)(i1:Nat)(a:ByteArray)(b:List ByteArray)(r30:List AV)(v36:AV)(s36:List Ob)
 (g0:decide ((↑i1:Int)<(↑m26:Int))=true→keep (S1 i1) (indexAddrv Tryd.prog 24 (S1 i1) (lro m26 2 c26) (i6 (↑i1:Int)))=some (AV.eaddr (st a::sQ b::r30),S1 i1))
 (g1:decide ((↑i1:Int)<(↑m26:Int))=true→appendv Tryd.prog 22 (S1 i1) 0 (o3q1 i1) (AV.list LK.clip 1 1 [st a])=some (v36,s36))
 (e0:decide ((↑i1:Int)<(↑m26:Int))=true→o3q1 (i1 + 1)=v36)
 (e1:decide ((↑i1:Int)<(↑m26:Int))=true→(↑(i1 + 1):Int)=w6 ((↑i1:Int) + 1))
 (e2:decide ((↑i1:Int)<(↑m26:Int))=true→S1 (i1 + 1)=s36) :
    (f33_o1 m26 i1=0→∃ Sx,vexec Tryd.prog X call lf 0 fg33 (loopN Tryd.f33 1) (f33_F1 x0 v11 m13 c13 i0 m26 c26 S1 o3q1 i1)=some (Ex.normal,Sx)∧forget f33_D1 Sx=(f33_F1 x0 v11 m13 c13 i0 m26 c26 S1 o3q1 (i1 + 1)))∧(f33_o1 m26 i1=1→vexec Tryd.prog X call lf 0 fg33 (loopN Tryd.f33 1) (f33_F1 x0 v11 m13 c13 i0 m26 c26 S1 o3q1 i1)=some (Ex.exit 2,(f33_S3 x0 v11 m13 c13 i0 m26 c26 S1 o3q1 i1))):=by
  unfold f33_o1
  cases c0:decide ((↑i1:Int)<(↑m26:Int)) with
  | true =>
    exact ⟨fun _=>f33_s1_t x0 X call lf v11 m13 c13 i0 m26 c26 S1 o3q1 i1 a b r30 v36 s36 c0 (g0 c0) (g1 c0) (e0 c0) (e1 c0) (e2 c0),fun h=>nq h⟩
  | false =>
    exact ⟨fun h=>nq h,fun _=>f33_r1_f x0 X call lf v11 m13 c13 i0 m26 c26 S1 o3q1 i1 c0⟩
def fg15:Nat→List Nat
  | 5011=>[1]
  | 5017=>[1]
  | _=>[]
theorem f15_pt (x0:Sgn)(X:Ext)(call:Caller)(lf:Nat)(l12:List ByteArray)
 (h0:cvq X call false 33 [AV.agg (gQ x0)] [Ob.cells (gQ x0)] (sQ l12))
 (h1:decide ((↑l12.length:Int)>256)=true):vbody Tryd.prog X call lf fg15 Tryd.f15 (codeOf Tryd.f15) [AV.agg (sgnC x0)] [] 0=some (bo false,[Ob.cells (gQ x0)]) :=
  along_sound (ans:=[(5,Ans.v (sQ l12)),(10,Ans.b true)]) (by kernel_rfl) (ai h0 (ai h1 trivial))
def f15_F0 (x0:Sgn)(l12:List ByteArray)(i0:Nat):St :=
  stOf 96 [2,16,17,18,19,20,21,22,23,24,25,26,27,28,29,30,31,32,33,34,35,36,37,38,39,40,41,42,43,44,45,46,47,48,49,50,51] [(0,AV.agg (gQ x0)),(1,AV.ref 0 0),(3,sQ l12),(4,i6 (↑i0:Int)),(11,AV.agg (gQ x0)),(12,sQ l12),(13,sQ l12),(14,i6 (↑l12.length:Int)),(15,bo false)] [Ob.cells (gQ x0)]
def f15_S0 (x0:Sgn)(l12:List ByteArray):St :=
  stOf 96 [] [(0,AV.agg (gQ x0)),(1,AV.ref 0 0),(2,bo false),(3,sQ l12),(4,i6 0),(11,AV.agg (gQ x0)),(12,sQ l12),(13,sQ l12),(14,i6 (↑l12.length:Int)),(15,bo false)] [Ob.cells (gQ x0)]
abbrev f15_D0:List Nat:=[21,20,2,51,50,49,48,47,46,45,44,43,42,41,40,39,38,37,36,35,34,33,32,31,30,29,28,27,26,25,24,23,22,19,18,17,16]
theorem f15_L0 (x0:Sgn)(l12:List ByteArray)(X:Ext)(call:Caller)(lf n:Nat)(x:Ex) (S' : St)
 (hn:n<lf)
 (hs:∀ j,j<n→∃ Sx,vexec Tryd.prog X call lf 0 fg15 (loopN Tryd.f15 0) (f15_F0 x0 l12 j)=some (Ex.normal,Sx)∧forget f15_D0 Sx=(f15_F0 x0 l12 (j + 1)))
 (he:vexec Tryd.prog X call lf 0 fg15 (loopN Tryd.f15 0) (f15_F0 x0 l12 n)=some (x,S'))
 (hx:x ≠ Ex.normal):vexec Tryd.prog X call lf 0 fg15 (Go.Code.loop (loopN Tryd.f15 0)) (f15_S0 x0 l12)=some (x,S') :=
  loop_runK (by kernel_rfl) (fun j=>(f15_F0 x0 l12 j)) n hn (by show forget f15_D0 (f15_S0 x0 l12)=(f15_F0 x0 l12 0); unfold f15_F0; show _=_; kernel_rfl) hs he hx
def f15_S1 (x0:Sgn)(l12:List ByteArray)(i0:Nat)(a:ByteArray)(r24:List AV)(b:ByteArray)(r31:List AV):St :=
  stOf 96 [20,21] [(0,AV.agg (gQ x0)),(1,AV.ref 0 0),(2,bo false),(3,sQ l12),(4,i6 (↑i0:Int)),(11,AV.agg (gQ x0)),(12,sQ l12),(13,sQ l12),(14,i6 (↑l12.length:Int)),(15,bo false),(16,i6 (↑i0:Int)),(17,sQ l12),(18,i6 (↑l12.length:Int)),(19,bo true),(22,sQ l12),(23,i6 (↑i0:Int)),(24,AV.eaddr (st a::r24)),(25,st a),(26,bo true),(27,bo false),(28,bo false),(29,sQ l12),(30,i6 (↑i0:Int)),(31,AV.eaddr (st b::r31)),(32,st b),(33,bo true),(34,bo true),(35,bo true),(41,bo true),(42,bo true),(51,bo true)] [Ob.cells (gQ x0)]
theorem f15_r0_ttt (x0:Sgn)(X:Ext)(call:Caller)(lf:Nat)(l12:List ByteArray)(i0:Nat)(a:ByteArray)(r24:List AV)(c:ByteArray)(r31:List AV)
 (h0:decide ((↑i0:Int)<(↑l12.length:Int))=true)
 (h1:kiq 22 [Ob.cells (gQ x0)] (sQ l12) (i6 (↑i0:Int)) (st a::r24))
 (h2:cvq X call true 34 [st a] [Ob.cells (gQ x0)] (bo true))
 (h3:kiq 22 [Ob.cells (gQ x0)] (sQ l12) (i6 (↑i0:Int)) (st c::r31))
 (h4:(ByteArray.toList c == ByteArray.toList (ByteArray.mk #[116,105,109,101]))=true):vexec Tryd.prog X call lf 0 fg15 (loopN Tryd.f15 0) (f15_F0 x0 l12 i0)=some (Ex.ret,(f15_S1 x0 l12 i0 a r24 c r31)) :=
  around_sound (ans:=[(4,Ans.b true),(9,Ans.v (AV.eaddr (st a::r24))),(11,Ans.v (bo true)),(19,Ans.v (AV.eaddr (st c::r31))),(23,Ans.b true)]) (by kernel_rfl) (ai h0 (ai h1 (ai h2 (ai h3 (ai h4 trivial)))))
theorem f15_pflttt (x0:Sgn)(X:Ext)(call:Caller)(lf:Nat)(l12:List ByteArray)(i0:Nat)(a:ByteArray)(r24:List AV)(c:ByteArray)(r31:List AV)
 (h0:cvq X call false 33 [AV.agg (gQ x0)] [Ob.cells (gQ x0)] (sQ l12))
 (h1:decide ((↑l12.length:Int)>256)=false)
 (h2:vexec Tryd.prog X call lf 0 fg15 (Code.loop (loopN Tryd.f15 0)) (f15_S0 x0 l12)=some (Ex.ret,(f15_S1 x0 l12 i0 a r24 c r31))):vbody Tryd.prog X call lf fg15 Tryd.f15 (codeOf Tryd.f15) [AV.agg (sgnC x0)] [] 0=some (bo false,[Ob.cells (gQ x0)]) :=
  along_sound (ans:=[(5,Ans.v (sQ l12)),(10,Ans.b false),(14,Ans.l Ex.ret (f15_S1 x0 l12 i0 a r24 c r31))]) (by kernel_rfl) (ai h0 (ai h1 (ai h2 trivial)))
def f15_S2 (x0:Sgn)(l12:List ByteArray)(i0:Nat)(a:ByteArray)(r24:List AV)(b:ByteArray)(r31:List AV)(c:ByteArray)(r38:List AV):St :=
  stOf 96 [20,21] [(0,AV.agg (gQ x0)),(1,AV.ref 0 0),(2,bo false),(3,sQ l12),(4,i6 (↑i0:Int)),(11,AV.agg (gQ x0)),(12,sQ l12),(13,sQ l12),(14,i6 (↑l12.length:Int)),(15,bo false),(16,i6 (↑i0:Int)),(17,sQ l12),(18,i6 (↑l12.length:Int)),(19,bo true),(22,sQ l12),(23,i6 (↑i0:Int)),(24,AV.eaddr (st a::r24)),(25,st a),(26,bo true),(27,bo false),(28,bo false),(29,sQ l12),(30,i6 (↑i0:Int)),(31,AV.eaddr (st b::r31)),(32,st b),(33,bo false),(34,bo false),(35,bo false),(36,sQ l12),(37,i6 (↑i0:Int)),(38,AV.eaddr (st c::r38)),(39,st c),(40,bo true),(41,bo true),(42,bo true),(51,bo true)] [Ob.cells (gQ x0)]
theorem f15_r0_ttft (x0:Sgn)(X:Ext)(call:Caller)(lf:Nat)(l12:List ByteArray)(i0:Nat)(a:ByteArray)(r24:List AV)(c:ByteArray)(r31:List AV)(d:ByteArray)(r38:List AV)
 (h0:decide ((↑i0:Int)<(↑l12.length:Int))=true)
 (h1:kiq 22 [Ob.cells (gQ x0)] (sQ l12) (i6 (↑i0:Int)) (st a::r24))
 (h2:cvq X call true 34 [st a] [Ob.cells (gQ x0)] (bo true))
 (h3:kiq 22 [Ob.cells (gQ x0)] (sQ l12) (i6 (↑i0:Int)) (st c::r31))
 (h4:(ByteArray.toList c == ByteArray.toList (ByteArray.mk #[116,105,109,101]))=false)
 (h5:kiq 22 [Ob.cells (gQ x0)] (sQ l12) (i6 (↑i0:Int)) (st d::r38))
 (h6:(ByteArray.toList d == ByteArray.toList (ByteArray.mk #[110,117,109,98,101,114]))=true):vexec Tryd.prog X call lf 0 fg15 (loopN Tryd.f15 0) (f15_F0 x0 l12 i0)=some (Ex.ret,(f15_S2 x0 l12 i0 a r24 c r31 d r38)) :=
  around_sound (ans:=[(4,Ans.b true),(9,Ans.v (AV.eaddr (st a::r24))),(11,Ans.v (bo true)),(19,Ans.v (AV.eaddr (st c::r31))),(23,Ans.b false),(31,Ans.v (AV.eaddr (st d::r38))),(35,Ans.b true)]) (by kernel_rfl) (ai h0 (ai h1 (ai h2 (ai h3 (ai h4 (ai h5 (ai h6 trivial)))))))
theorem f15_pflttft (x0:Sgn)(X:Ext)(call:Caller)(lf:Nat)(l12:List ByteArray)(i0:Nat)(a:ByteArray)(r24:List AV)(c:ByteArray)(r31:List AV)(d:ByteArray)(r38:List AV)
 (h0:cvq X call false 33 [AV.agg (gQ x0)] [Ob.cells (gQ x0)] (sQ l12))
 (h1:decide ((↑l12.length:Int)>256)=false)
 (h2:vexec Tryd.prog X call lf 0 fg15 (Code.loop (loopN Tryd.f15 0)) (f15_S0 x0 l12)=some (Ex.ret,(f15_S2 x0 l12 i0 a r24 c r31 d r38))):vbody Tryd.prog X call lf fg15 Tryd.f15 (codeOf Tryd.f15) [AV.agg (sgnC x0)] [] 0=some (bo false,[Ob.cells (gQ x0)]) :=
  along_sound (ans:=[(5,Ans.v (sQ l12)),(10,Ans.b false),(14,Ans.l Ex.ret (f15_S2 x0 l12 i0 a r24 c r31 d r38))]) (by kernel_rfl) (ai h0 (ai h1 (ai h2 trivial)))
def f15_S3 (x0:Sgn)(l12:List ByteArray)(i0:Nat)(a:ByteArray)(r24:List AV)(b:ByteArray)(r31:List AV)(c:ByteArray)(r38:List AV)(l45:List ByteArray)(k45:LK)(d:ByteArray)(r48:List AV):St :=
  stOf 96 [20,21] [(0,AV.agg (gQ x0)),(1,AV.ref 0 0),(2,bo false),(3,sQ l12),(4,i6 (↑i0:Int)),(11,AV.agg (gQ x0)),(12,sQ l12),(13,sQ l12),(14,i6 (↑l12.length:Int)),(15,bo false),(16,i6 (↑i0:Int)),(17,sQ l12),(18,i6 (↑l12.length:Int)),(19,bo true),(22,sQ l12),(23,i6 (↑i0:Int)),(24,AV.eaddr (st a::r24)),(25,st a),(26,bo true),(27,bo false),(28,bo false),(29,sQ l12),(30,i6 (↑i0:Int)),(31,AV.eaddr (st b::r31)),(32,st b),(33,bo false),(34,bo false),(35,bo false),(36,sQ l12),(37,i6 (↑i0:Int)),(38,AV.eaddr (st c::r38)),(39,st c),(40,bo false),(41,bo false),(42,bo false),(43,sQ l12),(44,i6 (↑i0:Int)),(45,AV.list k45 l45.length 1 (List.map st l45)),(46,sQ l12),(47,i6 (↑i0:Int)),(48,AV.eaddr (st d::r48)),(49,st d),(50,bo true),(51,bo true)] [Ob.cells (gQ x0)]
theorem f15_r0_ttfft (x0:Sgn)(X:Ext)(call:Caller)(lf:Nat)(l12:List ByteArray)(i0:Nat)(a:ByteArray)(r24:List AV)(c:ByteArray)(r31:List AV)(d:ByteArray)(r38:List AV)(l45:List ByteArray)(k45:LK)(e:ByteArray)(r48:List AV)
 (h0:decide ((↑i0:Int)<(↑l12.length:Int))=true)
 (h1:kiq 22 [Ob.cells (gQ x0)] (sQ l12) (i6 (↑i0:Int)) (st a::r24))
 (h2:cvq X call true 34 [st a] [Ob.cells (gQ x0)] (bo true))
 (h3:kiq 22 [Ob.cells (gQ x0)] (sQ l12) (i6 (↑i0:Int)) (st c::r31))
 (h4:(ByteArray.toList c == ByteArray.toList (ByteArray.mk #[116,105,109,101]))=false)
 (h5:kiq 22 [Ob.cells (gQ x0)] (sQ l12) (i6 (↑i0:Int)) (st d::r38))
 (h6:(ByteArray.toList d == ByteArray.toList (ByteArray.mk #[110,117,109,98,101,114]))=false)
 (h7:slc Tryd.prog 22 [Ob.cells (gQ x0)] true 0 (sQ l12) none (some (i6 (↑i0:Int))) none=some (AV.list k45 l45.length 1 (List.map st l45),[Ob.cells (gQ x0)]))
 (h8:kiq 22 [Ob.cells (gQ x0)] (sQ l12) (i6 (↑i0:Int)) (st e::r48))
 (h9:cvq X call true 35 [AV.list k45 l45.length 1 (List.map st l45),st e] [Ob.cells (gQ x0)] (bo true)):vexec Tryd.prog X call lf 0 fg15 (loopN Tryd.f15 0) (f15_F0 x0 l12 i0)=some (Ex.ret,(f15_S3 x0 l12 i0 a r24 c r31 d r38 l45 k45 e r48)) :=
  around_sound (ans:=[(4,Ans.b true),(9,Ans.v (AV.eaddr (st a::r24))),(11,Ans.v (bo true)),(19,Ans.v (AV.eaddr (st c::r31))),(23,Ans.b false),(31,Ans.v (AV.eaddr (st d::r38))),(35,Ans.b false),(43,Ans.v (AV.list k45 l45.length 1 (List.map st l45))),(49,Ans.v (AV.eaddr (st e::r48))),(53,Ans.v (bo true))]) (by kernel_rfl) (ai h0 (ai h1 (ai h2 (ai h3 (ai h4 (ai h5 (ai h6 (ai h7 (ai h8 (ai h9 trivial))))))))))
theorem f15_pflttfft (x0:Sgn)(X:Ext)(call:Caller)(lf:Nat)(l12:List ByteArray)(i0:Nat)(a:ByteArray)(r24:List AV)(c:ByteArray)(r31:List AV)(d:ByteArray)(r38:List AV)(l45:List ByteArray)(k45:LK)(e:ByteArray)(r48:List AV)
 (h0:cvq X call false 33 [AV.agg (gQ x0)] [Ob.cells (gQ x0)] (sQ l12))
 (h1:decide ((↑l12.length:Int)>256)=false)
 (h2:vexec Tryd.prog X call lf 0 fg15 (Code.loop (loopN Tryd.f15 0)) (f15_S0 x0 l12)=some (Ex.ret,(f15_S3 x0 l12 i0 a r24 c r31 d r38 l45 k45 e r48))):vbody Tryd.prog X call lf fg15 Tryd.f15 (codeOf Tryd.f15) [AV.agg (sgnC x0)] [] 0=some (bo false,[Ob.cells (gQ x0)]) :=
  along_sound (ans:=[(5,Ans.v (sQ l12)),(10,Ans.b false),(14,Ans.l Ex.ret (f15_S3 x0 l12 i0 a r24 c r31 d r38 l45 k45 e r48))]) (by kernel_rfl) (ai h0 (ai h1 (ai h2 trivial)))
theorem f15_s0_ttfff (x0:Sgn)(X:Ext)(call:Caller)(lf:Nat)(l12:List ByteArray)(i0:Nat)(a:ByteArray)(r24:List AV)(c:ByteArray)(r31:List AV)(d:ByteArray)(r38:List AV)(l45:List ByteArray)(k45:LK)(e:ByteArray)(r48:List AV)
 (h0:decide ((↑i0:Int)<(↑l12.length:Int))=true)
 (h1:kiq 22 [Ob.cells (gQ x0)] (sQ l12) (i6 (↑i0:Int)) (st a::r24))
 (h2:cvq X call true 34 [st a] [Ob.cells (gQ x0)] (bo true))
 (h3:kiq 22 [Ob.cells (gQ x0)] (sQ l12) (i6 (↑i0:Int)) (st c::r31))
 (h4:(ByteArray.toList c == ByteArray.toList (ByteArray.mk #[116,105,109,101]))=false)
 (h5:kiq 22 [Ob.cells (gQ x0)] (sQ l12) (i6 (↑i0:Int)) (st d::r38))
 (h6:(ByteArray.toList d == ByteArray.toList (ByteArray.mk #[110,117,109,98,101,114]))=false)
 (h7:slc Tryd.prog 22 [Ob.cells (gQ x0)] true 0 (sQ l12) none (some (i6 (↑i0:Int))) none=some (AV.list k45 l45.length 1 (List.map st l45),[Ob.cells (gQ x0)]))
 (h8:kiq 22 [Ob.cells (gQ x0)] (sQ l12) (i6 (↑i0:Int)) (st e::r48))
 (h9:cvq X call true 35 [AV.list k45 l45.length 1 (List.map st l45),st e] [Ob.cells (gQ x0)] (bo false))
 (e0:(↑(i0 + 1):Int)=w6 ((↑i0:Int) + 1)):∃ Sx,vexec Tryd.prog X call lf 0 fg15 (loopN Tryd.f15 0) (f15_F0 x0 l12 i0)=some (Ex.normal,Sx)∧forget f15_D0 Sx=(f15_F0 x0 l12 (i0 + 1)) :=
  ⟨stOf 96 [2] [(0,AV.agg (gQ x0)),(1,AV.ref 0 0),(3,sQ l12),(4,i6 (w6 ((↑i0:Int) + 1))),(11,AV.agg (gQ x0)),(12,sQ l12),(13,sQ l12),(14,i6 (↑l12.length:Int)),(15,bo false),(16,i6 (↑i0:Int)),(17,sQ l12),(18,i6 (↑l12.length:Int)),(19,bo true),(20,i6 (↑i0:Int)),(21,i6 (w6 ((↑i0:Int) + 1))),(22,sQ l12),(23,i6 (↑i0:Int)),(24,AV.eaddr (st a::r24)),(25,st a),(26,bo true),(27,bo false),(28,bo false),(29,sQ l12),(30,i6 (↑i0:Int)),(31,AV.eaddr (st c::r31)),(32,st c),(33,bo false),(34,bo false),(35,bo false),(36,sQ l12),(37,i6 (↑i0:Int)),(38,AV.eaddr (st d::r38)),(39,st d),(40,bo false),(41,bo false),(42,bo false),(43,sQ l12),(44,i6 (↑i0:Int)),(45,AV.list k45 l45.length 1 (List.map st l45)),(46,sQ l12),(47,i6 (↑i0:Int)),(48,AV.eaddr (st e::r48)),(49,st e),(50,bo false),(51,bo false)] [Ob.cells (gQ x0)],around_sound (ans:=[(4,Ans.b true),(9,Ans.v (AV.eaddr (st a::r24))),(11,Ans.v (bo true)),(19,Ans.v (AV.eaddr (st c::r31))),(23,Ans.b false),(31,Ans.v (AV.eaddr (st d::r38))),(35,Ans.b false),(43,Ans.v (AV.list k45 l45.length 1 (List.map st l45))),(49,Ans.v (AV.eaddr (st e::r48))),(53,Ans.v (bo false))]) (by kernel_rfl) (ai h0 (ai h1 (ai h2 (ai h3 (ai h4 (ai h5 (ai h6 (ai h7 (ai h8 (ai h9 trivial)))))))))),by unfold f15_F0; rw [e0]; show _=_; kernel_rfl⟩
def f15_S4 (x0:Sgn)(l12:List ByteArray)(i0:Nat)(a:ByteArray)(r24:List AV):St :=
  stOf 96 [20,21] [(0,AV.agg (gQ x0)),(1,AV.ref 0 0),(2,bo false),(3,sQ l12),(4,i6 (↑i0:Int)),(11,AV.agg (gQ x0)),(12,sQ l12),(13,sQ l12),(14,i6 (↑l12.length:Int)),(15,bo false),(16,i6 (↑i0:Int)),(17,sQ l12),(18,i6 (↑l12.length:Int)),(19,bo true),(22,sQ l12),(23,i6 (↑i0:Int)),(24,AV.eaddr (st a::r24)),(25,st a),(26,bo false),(27,bo true),(28,bo true),(34,bo true),(35,bo true),(41,bo true),(42,bo true),(51,bo true)] [Ob.cells (gQ x0)]
theorem f15_r0_tf (x0:Sgn)(X:Ext)(call:Caller)(lf:Nat)(l12:List ByteArray)(i0:Nat)(a:ByteArray)(r24:List AV)
 (h0:decide ((↑i0:Int)<(↑l12.length:Int))=true)
 (h1:kiq 22 [Ob.cells (gQ x0)] (sQ l12) (i6 (↑i0:Int)) (st a::r24))
 (h2:cvq X call true 34 [st a] [Ob.cells (gQ x0)] (bo false)):vexec Tryd.prog X call lf 0 fg15 (loopN Tryd.f15 0) (f15_F0 x0 l12 i0)=some (Ex.ret,(f15_S4 x0 l12 i0 a r24)) :=
  around_sound (ans:=[(4,Ans.b true),(9,Ans.v (AV.eaddr (st a::r24))),(11,Ans.v (bo false))]) (by kernel_rfl) (ai h0 (ai h1 (ai h2 trivial)))
theorem f15_pfltf (x0:Sgn)(X:Ext)(call:Caller)(lf:Nat)(l12:List ByteArray)(i0:Nat)(a:ByteArray)(r24:List AV)
 (h0:cvq X call false 33 [AV.agg (gQ x0)] [Ob.cells (gQ x0)] (sQ l12))
 (h1:decide ((↑l12.length:Int)>256)=false)
 (h2:vexec Tryd.prog X call lf 0 fg15 (Code.loop (loopN Tryd.f15 0)) (f15_S0 x0 l12)=some (Ex.ret,(f15_S4 x0 l12 i0 a r24))):vbody Tryd.prog X call lf fg15 Tryd.f15 (codeOf Tryd.f15) [AV.agg (sgnC x0)] [] 0=some (bo false,[Ob.cells (gQ x0)]) :=
  along_sound (ans:=[(5,Ans.v (sQ l12)),(10,Ans.b false),(14,Ans.l Ex.ret (f15_S4 x0 l12 i0 a r24))]) (by kernel_rfl) (ai h0 (ai h1 (ai h2 trivial)))
def f15_S5 (x0:Sgn)(l12:List ByteArray)(i0:Nat):St :=
  stOf 96 [2,20,21,22,23,24,25,26,27,28,29,30,31,32,33,34,35,36,37,38,39,40,41,42,43,44,45,46,47,48,49,50,51] [(0,AV.agg (gQ x0)),(1,AV.ref 0 0),(3,sQ l12),(4,i6 (↑i0:Int)),(11,AV.agg (gQ x0)),(12,sQ l12),(13,sQ l12),(14,i6 (↑l12.length:Int)),(15,bo false),(16,i6 (↑i0:Int)),(17,sQ l12),(18,i6 (↑l12.length:Int)),(19,bo false)] [Ob.cells (gQ x0)]
theorem f15_r0_f (x0:Sgn)(X:Ext)(call:Caller)(lf:Nat)(l12:List ByteArray)(i0:Nat)
 (h0:decide ((↑i0:Int)<(↑l12.length:Int))=false):vexec Tryd.prog X call lf 0 fg15 (loopN Tryd.f15 0) (f15_F0 x0 l12 i0)=some (Ex.exit 0,(f15_S5 x0 l12 i0)) :=
  around_sound (ans:=[(4,Ans.b false)]) (by kernel_rfl) (ai h0 trivial)
def f15_F1 (x0:Sgn)(l12:List ByteArray)(i0 i1:Nat):St :=
  stOf 96 [2,6,20,21,22,23,24,25,26,27,28,29,30,31,32,33,34,35,36,37,38,39,40,41,42,43,44,45,46,47,48,49,50,51,56,57,58,59,60,61,62,63,64,65] [(0,AV.agg (gQ x0)),(1,AV.ref 0 0),(3,sQ l12),(4,i6 (↑i0:Int)),(11,AV.agg (gQ x0)),(12,sQ l12),(13,sQ l12),(14,i6 (↑l12.length:Int)),(15,bo false),(16,i6 (↑i0:Int)),(17,sQ l12),(18,i6 (↑l12.length:Int)),(19,bo false),(52,AV.ref 0 1),(53,cQ x0.consts),(54,i6 (↑x0.consts.length:Int)),(55,i6 (↑i1:Int))] [Ob.cells (gQ x0)]
def f15_S6 (x0:Sgn)(l12:List ByteArray)(i0:Nat):St :=
  stOf 96 [2,20,21,22,23,24,25,26,27,28,29,30,31,32,33,34,35,36,37,38,39,40,41,42,43,44,45,46,47,48,49,50,51] [(0,AV.agg (gQ x0)),(1,AV.ref 0 0),(3,sQ l12),(4,i6 (↑i0:Int)),(11,AV.agg (gQ x0)),(12,sQ l12),(13,sQ l12),(14,i6 (↑l12.length:Int)),(15,bo false),(16,i6 (↑i0:Int)),(17,sQ l12),(18,i6 (↑l12.length:Int)),(19,bo false),(52,AV.ref 0 1),(53,cQ x0.consts),(54,i6 (↑x0.consts.length:Int)),(55,i6 0)] [Ob.cells (gQ x0)]
abbrev f15_D1:List Nat:=[65,2,64,63,62,61,60,59,6,58,57,56]
theorem f15_L1 (x0:Sgn)(l12:List ByteArray)(i0:Nat)(X:Ext)(call:Caller)(lf n:Nat)(x:Ex) (S' : St)
 (hn:n<lf)
 (hs:∀ j,j<n→∃ Sx,vexec Tryd.prog X call lf 0 fg15 (loopN Tryd.f15 1) (f15_F1 x0 l12 i0 j)=some (Ex.normal,Sx)∧forget f15_D1 Sx=(f15_F1 x0 l12 i0 (j + 1)))
 (he:vexec Tryd.prog X call lf 0 fg15 (loopN Tryd.f15 1) (f15_F1 x0 l12 i0 n)=some (x,S'))
 (hx:x ≠ Ex.normal):vexec Tryd.prog X call lf 0 fg15 (Go.Code.loop (loopN Tryd.f15 1)) (f15_S6 x0 l12 i0)=some (x,S') :=
  loop_runK (by kernel_rfl) (fun j=>(f15_F1 x0 l12 i0 j)) n hn (by show forget f15_D1 (f15_S6 x0 l12 i0)=(f15_F1 x0 l12 i0 0); unfold f15_F1; show _=_; kernel_rfl) hs he hx
theorem f15_s1_tt (x0:Sgn)(X:Ext)(call:Caller)(lf:Nat)(l12:List ByteArray)(i0 i1:Nat)(a c:ByteArray)(r57:List AV)
 (h0:decide ((↑i1:Int)<(↑x0.consts.length:Int))=true)
 (h1:kiq 23 [Ob.cells (gQ x0)] (cQ x0.consts) (i6 (↑i1:Int)) (st a::st c::r57))
 (h2:cvq X call false 35 [sQ x0.sorts,st c] [Ob.cells (gQ x0)] (bo true))
 (e0:(↑(i1 + 1):Int)=w6 ((↑i1:Int) + 1)):∃ Sx,vexec Tryd.prog X call lf 0 fg15 (loopN Tryd.f15 1) (f15_F1 x0 l12 i0 i1)=some (Ex.normal,Sx)∧forget f15_D1 Sx=(f15_F1 x0 l12 i0 (i1 + 1)) :=
  ⟨stOf 96 [2,20,21,22,23,24,25,26,27,28,29,30,31,32,33,34,35,36,37,38,39,40,41,42,43,44,45,46,47,48,49,50,51] [(0,AV.agg (gQ x0)),(1,AV.ref 0 0),(3,sQ l12),(4,i6 (↑i0:Int)),(6,AV.eaddr [st a,st c]),(11,AV.agg (gQ x0)),(12,sQ l12),(13,sQ l12),(14,i6 (↑l12.length:Int)),(15,bo false),(16,i6 (↑i0:Int)),(17,sQ l12),(18,i6 (↑l12.length:Int)),(19,bo false),(52,AV.ref 0 1),(53,cQ x0.consts),(54,i6 (↑x0.consts.length:Int)),(55,i6 (w6 ((↑i1:Int) + 1))),(56,bo true),(57,AV.eaddr (st a::st c::r57)),(58,AV.agg [st a,st c]),(59,AV.ref 0 0),(60,sQ x0.sorts),(61,AV.eaddr [st c]),(62,st c),(63,bo true),(64,bo false),(65,i6 (w6 ((↑i1:Int) + 1)))] [Ob.cells (gQ x0)],around_sound (ans:=[(1,Ans.b true),(4,Ans.v (AV.eaddr (st a::st c::r57))),(11,Ans.v (bo true))]) (by kernel_rfl) (ai h0 (ai h1 (ai h2 trivial))),by unfold f15_F1; rw [e0]; show _=_; kernel_rfl⟩
def f15_S7 (x0:Sgn)(l12:List ByteArray)(i0 i1:Nat)(a b:ByteArray)(r57:List AV):St :=
  stOf 96 [20,21,22,23,24,25,26,27,28,29,30,31,32,33,34,35,36,37,38,39,40,41,42,43,44,45,46,47,48,49,50,51,65] [(0,AV.agg (gQ x0)),(1,AV.ref 0 0),(2,bo false),(3,sQ l12),(4,i6 (↑i0:Int)),(6,AV.eaddr [st a,st b]),(11,AV.agg (gQ x0)),(12,sQ l12),(13,sQ l12),(14,i6 (↑l12.length:Int)),(15,bo false),(16,i6 (↑i0:Int)),(17,sQ l12),(18,i6 (↑l12.length:Int)),(19,bo false),(52,AV.ref 0 1),(53,cQ x0.consts),(54,i6 (↑x0.consts.length:Int)),(55,i6 (↑i1:Int)),(56,bo true),(57,AV.eaddr (st a::st b::r57)),(58,AV.agg [st a,st b]),(59,AV.ref 0 0),(60,sQ x0.sorts),(61,AV.eaddr [st b]),(62,st b),(63,bo false),(64,bo true)] [Ob.cells (gQ x0)]
theorem f15_r1_tf (x0:Sgn)(X:Ext)(call:Caller)(lf:Nat)(l12:List ByteArray)(i0 i1:Nat)(a c:ByteArray)(r57:List AV)
 (h0:decide ((↑i1:Int)<(↑x0.consts.length:Int))=true)
 (h1:kiq 23 [Ob.cells (gQ x0)] (cQ x0.consts) (i6 (↑i1:Int)) (st a::st c::r57))
 (h2:cvq X call false 35 [sQ x0.sorts,st c] [Ob.cells (gQ x0)] (bo false)):vexec Tryd.prog X call lf 0 fg15 (loopN Tryd.f15 1) (f15_F1 x0 l12 i0 i1)=some (Ex.ret,(f15_S7 x0 l12 i0 i1 a c r57)) :=
  around_sound (ans:=[(1,Ans.b true),(4,Ans.v (AV.eaddr (st a::st c::r57))),(11,Ans.v (bo false))]) (by kernel_rfl) (ai h0 (ai h1 (ai h2 trivial)))
theorem f15_pflfltf (x0:Sgn)(X:Ext)(call:Caller)(lf:Nat)(l12:List ByteArray)(i0 i1:Nat)(a c:ByteArray)(r57:List AV)
 (h0:cvq X call false 33 [AV.agg (gQ x0)] [Ob.cells (gQ x0)] (sQ l12))
 (h1:decide ((↑l12.length:Int)>256)=false)
 (h2:vexec Tryd.prog X call lf 0 fg15 (Code.loop (loopN Tryd.f15 0)) (f15_S0 x0 l12)=some (Ex.exit 0,(f15_S5 x0 l12 i0)))
 (h3:vexec Tryd.prog X call lf 0 fg15 (Code.loop (loopN Tryd.f15 1)) (f15_S6 x0 l12 i0)=some (Ex.ret,(f15_S7 x0 l12 i0 i1 a c r57))):vbody Tryd.prog X call lf fg15 Tryd.f15 (codeOf Tryd.f15) [AV.agg (sgnC x0)] [] 0=some (bo false,[Ob.cells (gQ x0)]) :=
  along_sound (ans:=[(5,Ans.v (sQ l12)),(10,Ans.b false),(14,Ans.l (Ex.exit 0) (f15_S5 x0 l12 i0)),(20,Ans.l Ex.ret (f15_S7 x0 l12 i0 i1 a c r57))]) (by kernel_rfl) (ai h0 (ai h1 (ai h2 (ai h3 trivial))))
def f15_S8 (x0:Sgn)(l12:List ByteArray)(i0 i1:Nat):St :=
  stOf 96 [2,6,20,21,22,23,24,25,26,27,28,29,30,31,32,33,34,35,36,37,38,39,40,41,42,43,44,45,46,47,48,49,50,51,57,58,59,60,61,62,63,64,65] [(0,AV.agg (gQ x0)),(1,AV.ref 0 0),(3,sQ l12),(4,i6 (↑i0:Int)),(11,AV.agg (gQ x0)),(12,sQ l12),(13,sQ l12),(14,i6 (↑l12.length:Int)),(15,bo false),(16,i6 (↑i0:Int)),(17,sQ l12),(18,i6 (↑l12.length:Int)),(19,bo false),(52,AV.ref 0 1),(53,cQ x0.consts),(54,i6 (↑x0.consts.length:Int)),(55,i6 (↑i1:Int)),(56,bo false)] [Ob.cells (gQ x0)]
theorem f15_r1_f (x0:Sgn)(X:Ext)(call:Caller)(lf:Nat)(l12:List ByteArray)(i0 i1:Nat)
 (h0:decide ((↑i1:Int)<(↑x0.consts.length:Int))=false):vexec Tryd.prog X call lf 0 fg15 (loopN Tryd.f15 1) (f15_F1 x0 l12 i0 i1)=some (Ex.exit 2,(f15_S8 x0 l12 i0 i1)) :=
  around_sound (ans:=[(1,Ans.b false)]) (by kernel_rfl) (ai h0 trivial)
def f15_F2 (x0:Sgn)(l12:List ByteArray)(i0 i1 i2:Nat):St :=
  stOf 96 [2,6,8,10,20,21,22,23,24,25,26,27,28,29,30,31,32,33,34,35,36,37,38,39,40,41,42,43,44,45,46,47,48,49,50,51,57,58,59,60,61,62,63,64,65,70,71,72,73,74,75,76,77,78,79,80,81,82,83,84,85,86,87,88,89,90,91,92,93,94,95] [(0,AV.agg (gQ x0)),(1,AV.ref 0 0),(3,sQ l12),(4,i6 (↑i0:Int)),(11,AV.agg (gQ x0)),(12,sQ l12),(13,sQ l12),(14,i6 (↑l12.length:Int)),(15,bo false),(16,i6 (↑i0:Int)),(17,sQ l12),(18,i6 (↑l12.length:Int)),(19,bo false),(52,AV.ref 0 1),(53,cQ x0.consts),(54,i6 (↑x0.consts.length:Int)),(55,i6 (↑i1:Int)),(56,bo false),(66,AV.ref 0 2),(67,pQ x0.preds),(68,i6 (↑x0.preds.length:Int)),(69,i6 (↑i2:Int))] [Ob.cells (gQ x0)]
def f15_S9 (x0:Sgn)(l12:List ByteArray)(i0 i1:Nat):St :=
  stOf 96 [2,6,20,21,22,23,24,25,26,27,28,29,30,31,32,33,34,35,36,37,38,39,40,41,42,43,44,45,46,47,48,49,50,51,57,58,59,60,61,62,63,64,65] [(0,AV.agg (gQ x0)),(1,AV.ref 0 0),(3,sQ l12),(4,i6 (↑i0:Int)),(11,AV.agg (gQ x0)),(12,sQ l12),(13,sQ l12),(14,i6 (↑l12.length:Int)),(15,bo false),(16,i6 (↑i0:Int)),(17,sQ l12),(18,i6 (↑l12.length:Int)),(19,bo false),(52,AV.ref 0 1),(53,cQ x0.consts),(54,i6 (↑x0.consts.length:Int)),(55,i6 (↑i1:Int)),(56,bo false),(66,AV.ref 0 2),(67,pQ x0.preds),(68,i6 (↑x0.preds.length:Int)),(69,i6 0)] [Ob.cells (gQ x0)]
abbrev f15_D2:List Nat:=[95,94,2,93,92,91,90,10,89,88,87,86,85,84,83,2,82,81,80,79,78,77,76,75,74,73,8,72,71,70]
theorem f15_L2 (x0:Sgn)(l12:List ByteArray)(i0 i1:Nat)(X:Ext)(call:Caller)(lf n:Nat)(x:Ex) (S' : St)
 (hn:n<lf)
 (hs:∀ j,j<n→∃ Sx,vexec Tryd.prog X call lf 0 fg15 (loopN Tryd.f15 2) (f15_F2 x0 l12 i0 i1 j)=some (Ex.normal,Sx)∧forget f15_D2 Sx=(f15_F2 x0 l12 i0 i1 (j + 1)))
 (he:vexec Tryd.prog X call lf 0 fg15 (loopN Tryd.f15 2) (f15_F2 x0 l12 i0 i1 n)=some (x,S'))
 (hx:x ≠ Ex.normal):vexec Tryd.prog X call lf 0 fg15 (Go.Code.loop (loopN Tryd.f15 2)) (f15_S9 x0 l12 i0 i1)=some (x,S') :=
  loop_runK (by kernel_rfl) (fun j=>(f15_F2 x0 l12 i0 i1 j)) n hn (by show forget f15_D2 (f15_S9 x0 l12 i0 i1)=(f15_F2 x0 l12 i0 i1 0); unfold f15_F2; show _=_; kernel_rfl) hs he hx
def f15_S10 (x0:Sgn)(l12:List ByteArray)(i0 i1 i2:Nat)(a:ByteArray)(b:List ByteArray)(r71:List AV):St :=
  stOf 96 [6,10,20,21,22,23,24,25,26,27,28,29,30,31,32,33,34,35,36,37,38,39,40,41,42,43,44,45,46,47,48,49,50,51,57,58,59,60,61,62,63,64,65,83,84,85,86,87,88,89,90,91,92,93,94,95] [(0,AV.agg (gQ x0)),(1,AV.ref 0 0),(2,bo false),(3,sQ l12),(4,i6 (↑i0:Int)),(8,AV.eaddr [st a,sQ b]),(11,AV.agg (gQ x0)),(12,sQ l12),(13,sQ l12),(14,i6 (↑l12.length:Int)),(15,bo false),(16,i6 (↑i0:Int)),(17,sQ l12),(18,i6 (↑l12.length:Int)),(19,bo false),(52,AV.ref 0 1),(53,cQ x0.consts),(54,i6 (↑x0.consts.length:Int)),(55,i6 (↑i1:Int)),(56,bo false),(66,AV.ref 0 2),(67,pQ x0.preds),(68,i6 (↑x0.preds.length:Int)),(69,i6 (↑i2:Int)),(70,bo true),(71,AV.eaddr (st a::sQ b::r71)),(72,AV.agg [st a,sQ b]),(73,AV.eaddr [sQ b]),(74,sQ b),(75,i6 (↑b.length:Int)),(76,bo true),(77,bo true),(82,bo true)] [Ob.cells (gQ x0)]
theorem f15_r2_tt (x0:Sgn)(X:Ext)(call:Caller)(lf:Nat)(l12:List ByteArray)(i0 i1 i2:Nat)(a:ByteArray)(c:List ByteArray)(r71:List AV)
 (h0:decide ((↑i2:Int)<(↑x0.preds.length:Int))=true)
 (h1:kiq 24 [Ob.cells (gQ x0)] (pQ x0.preds) (i6 (↑i2:Int)) (st a::sQ c::r71))
 (h2:decide ((↑c.length:Int)<1)=true):vexec Tryd.prog X call lf 0 fg15 (loopN Tryd.f15 2) (f15_F2 x0 l12 i0 i1 i2)=some (Ex.ret,(f15_S10 x0 l12 i0 i1 i2 a c r71)) :=
  around_sound (ans:=[(1,Ans.b true),(4,Ans.v (AV.eaddr (st a::sQ c::r71))),(10,Ans.b true)]) (by kernel_rfl) (ai h0 (ai h1 (ai h2 trivial)))
theorem f15_pflflfltt (x0:Sgn)(X:Ext)(call:Caller)(lf:Nat)(l12:List ByteArray)(i0 i1 i2:Nat)(a:ByteArray)(c:List ByteArray)(r71:List AV)
 (h0:cvq X call false 33 [AV.agg (gQ x0)] [Ob.cells (gQ x0)] (sQ l12))
 (h1:decide ((↑l12.length:Int)>256)=false)
 (h2:vexec Tryd.prog X call lf 0 fg15 (Code.loop (loopN Tryd.f15 0)) (f15_S0 x0 l12)=some (Ex.exit 0,(f15_S5 x0 l12 i0)))
 (h3:vexec Tryd.prog X call lf 0 fg15 (Code.loop (loopN Tryd.f15 1)) (f15_S6 x0 l12 i0)=some (Ex.exit 2,(f15_S8 x0 l12 i0 i1)))
 (h4:vexec Tryd.prog X call lf 0 fg15 (Code.loop (loopN Tryd.f15 2)) (f15_S9 x0 l12 i0 i1)=some (Ex.ret,(f15_S10 x0 l12 i0 i1 i2 a c r71))):vbody Tryd.prog X call lf fg15 Tryd.f15 (codeOf Tryd.f15) [AV.agg (sgnC x0)] [] 0=some (bo false,[Ob.cells (gQ x0)]) :=
  along_sound (ans:=[(5,Ans.v (sQ l12)),(10,Ans.b false),(14,Ans.l (Ex.exit 0) (f15_S5 x0 l12 i0)),(20,Ans.l (Ex.exit 2) (f15_S8 x0 l12 i0 i1)),(26,Ans.l Ex.ret (f15_S10 x0 l12 i0 i1 i2 a c r71))]) (by kernel_rfl) (ai h0 (ai h1 (ai h2 (ai h3 (ai h4 trivial)))))
def f15_S11 (x0:Sgn)(l12:List ByteArray)(i0 i1 i2:Nat)(a:ByteArray)(b:List ByteArray)(r71:List AV):St :=
  stOf 96 [6,10,20,21,22,23,24,25,26,27,28,29,30,31,32,33,34,35,36,37,38,39,40,41,42,43,44,45,46,47,48,49,50,51,57,58,59,60,61,62,63,64,65,83,84,85,86,87,88,89,90,91,92,93,94,95] [(0,AV.agg (gQ x0)),(1,AV.ref 0 0),(2,bo false),(3,sQ l12),(4,i6 (↑i0:Int)),(8,AV.eaddr [st a,sQ b]),(11,AV.agg (gQ x0)),(12,sQ l12),(13,sQ l12),(14,i6 (↑l12.length:Int)),(15,bo false),(16,i6 (↑i0:Int)),(17,sQ l12),(18,i6 (↑l12.length:Int)),(19,bo false),(52,AV.ref 0 1),(53,cQ x0.consts),(54,i6 (↑x0.consts.length:Int)),(55,i6 (↑i1:Int)),(56,bo false),(66,AV.ref 0 2),(67,pQ x0.preds),(68,i6 (↑x0.preds.length:Int)),(69,i6 (↑i2:Int)),(70,bo true),(71,AV.eaddr (st a::sQ b::r71)),(72,AV.agg [st a,sQ b]),(73,AV.eaddr [sQ b]),(74,sQ b),(75,i6 (↑b.length:Int)),(76,bo false),(77,bo false),(78,AV.eaddr [sQ b]),(79,sQ b),(80,i6 (↑b.length:Int)),(81,bo true),(82,bo true)] [Ob.cells (gQ x0)]
theorem f15_r2_tft (x0:Sgn)(X:Ext)(call:Caller)(lf:Nat)(l12:List ByteArray)(i0 i1 i2:Nat)(a:ByteArray)(c:List ByteArray)(r71:List AV)
 (h0:decide ((↑i2:Int)<(↑x0.preds.length:Int))=true)
 (h1:kiq 24 [Ob.cells (gQ x0)] (pQ x0.preds) (i6 (↑i2:Int)) (st a::sQ c::r71))
 (h2:decide ((↑c.length:Int)<1)=false)
 (h3:decide ((↑c.length:Int)>3)=true):vexec Tryd.prog X call lf 0 fg15 (loopN Tryd.f15 2) (f15_F2 x0 l12 i0 i1 i2)=some (Ex.ret,(f15_S11 x0 l12 i0 i1 i2 a c r71)) :=
  around_sound (ans:=[(1,Ans.b true),(4,Ans.v (AV.eaddr (st a::sQ c::r71))),(10,Ans.b false),(19,Ans.b true)]) (by kernel_rfl) (ai h0 (ai h1 (ai h2 (ai h3 trivial))))
theorem f15_pflflfltft (x0:Sgn)(X:Ext)(call:Caller)(lf:Nat)(l12:List ByteArray)(i0 i1 i2:Nat)(a:ByteArray)(c:List ByteArray)(r71:List AV)
 (h0:cvq X call false 33 [AV.agg (gQ x0)] [Ob.cells (gQ x0)] (sQ l12))
 (h1:decide ((↑l12.length:Int)>256)=false)
 (h2:vexec Tryd.prog X call lf 0 fg15 (Code.loop (loopN Tryd.f15 0)) (f15_S0 x0 l12)=some (Ex.exit 0,(f15_S5 x0 l12 i0)))
 (h3:vexec Tryd.prog X call lf 0 fg15 (Code.loop (loopN Tryd.f15 1)) (f15_S6 x0 l12 i0)=some (Ex.exit 2,(f15_S8 x0 l12 i0 i1)))
 (h4:vexec Tryd.prog X call lf 0 fg15 (Code.loop (loopN Tryd.f15 2)) (f15_S9 x0 l12 i0 i1)=some (Ex.ret,(f15_S11 x0 l12 i0 i1 i2 a c r71))):vbody Tryd.prog X call lf fg15 Tryd.f15 (codeOf Tryd.f15) [AV.agg (sgnC x0)] [] 0=some (bo false,[Ob.cells (gQ x0)]) :=
  along_sound (ans:=[(5,Ans.v (sQ l12)),(10,Ans.b false),(14,Ans.l (Ex.exit 0) (f15_S5 x0 l12 i0)),(20,Ans.l (Ex.exit 2) (f15_S8 x0 l12 i0 i1)),(26,Ans.l Ex.ret (f15_S11 x0 l12 i0 i1 i2 a c r71))]) (by kernel_rfl) (ai h0 (ai h1 (ai h2 (ai h3 (ai h4 trivial)))))
def f15_F3 (x0:Sgn)(l12:List ByteArray)(i0 i1 i2:Nat)(a:ByteArray)(b:List ByteArray)(r71:List AV)(i3:Nat):St :=
  stOf 96 [2,6,10,20,21,22,23,24,25,26,27,28,29,30,31,32,33,34,35,36,37,38,39,40,41,42,43,44,45,46,47,48,49,50,51,57,58,59,60,61,62,63,64,65,87,88,89,90,91,92,93,94,95] [(0,AV.agg (gQ x0)),(1,AV.ref 0 0),(3,sQ l12),(4,i6 (↑i0:Int)),(8,AV.eaddr [st a,sQ b]),(11,AV.agg (gQ x0)),(12,sQ l12),(13,sQ l12),(14,i6 (↑l12.length:Int)),(15,bo false),(16,i6 (↑i0:Int)),(17,sQ l12),(18,i6 (↑l12.length:Int)),(19,bo false),(52,AV.ref 0 1),(53,cQ x0.consts),(54,i6 (↑x0.consts.length:Int)),(55,i6 (↑i1:Int)),(56,bo false),(66,AV.ref 0 2),(67,pQ x0.preds),(68,i6 (↑x0.preds.length:Int)),(69,i6 (↑i2:Int)),(70,bo true),(71,AV.eaddr (st a::sQ b::r71)),(72,AV.agg [st a,sQ b]),(73,AV.eaddr [sQ b]),(74,sQ b),(75,i6 (↑b.length:Int)),(76,bo false),(77,bo false),(78,AV.eaddr [sQ b]),(79,sQ b),(80,i6 (↑b.length:Int)),(81,bo false),(82,bo false),(83,AV.eaddr [sQ b]),(84,sQ b),(85,i6 (↑b.length:Int)),(86,i6 (↑i3:Int))] [Ob.cells (gQ x0)]
def f15_S12 (x0:Sgn)(l12:List ByteArray)(i0 i1 i2:Nat)(a:ByteArray)(b:List ByteArray)(r71:List AV):St :=
  stOf 96 [2,6,10,20,21,22,23,24,25,26,27,28,29,30,31,32,33,34,35,36,37,38,39,40,41,42,43,44,45,46,47,48,49,50,51,57,58,59,60,61,62,63,64,65,87,88,89,90,91,92,93,94,95] [(0,AV.agg (gQ x0)),(1,AV.ref 0 0),(3,sQ l12),(4,i6 (↑i0:Int)),(8,AV.eaddr [st a,sQ b]),(11,AV.agg (gQ x0)),(12,sQ l12),(13,sQ l12),(14,i6 (↑l12.length:Int)),(15,bo false),(16,i6 (↑i0:Int)),(17,sQ l12),(18,i6 (↑l12.length:Int)),(19,bo false),(52,AV.ref 0 1),(53,cQ x0.consts),(54,i6 (↑x0.consts.length:Int)),(55,i6 (↑i1:Int)),(56,bo false),(66,AV.ref 0 2),(67,pQ x0.preds),(68,i6 (↑x0.preds.length:Int)),(69,i6 (↑i2:Int)),(70,bo true),(71,AV.eaddr (st a::sQ b::r71)),(72,AV.agg [st a,sQ b]),(73,AV.eaddr [sQ b]),(74,sQ b),(75,i6 (↑b.length:Int)),(76,bo false),(77,bo false),(78,AV.eaddr [sQ b]),(79,sQ b),(80,i6 (↑b.length:Int)),(81,bo false),(82,bo false),(83,AV.eaddr [sQ b]),(84,sQ b),(85,i6 (↑b.length:Int)),(86,i6 0)] [Ob.cells (gQ x0)]
abbrev f15_D3:List Nat:=[94,2,93,92,91,90,10,89,88,87]
theorem f15_L3 (x0:Sgn)(l12:List ByteArray)(i0 i1 i2:Nat)(a:ByteArray)(b:List ByteArray)(r71:List AV)(X:Ext)(call:Caller)(lf n:Nat)(x:Ex) (S' : St)
 (hn:n<lf)
 (hs:∀ j,j<n→∃ Sx,vexec Tryd.prog X call lf 0 fg15 (loopN Tryd.f15 3) (f15_F3 x0 l12 i0 i1 i2 a b r71 j)=some (Ex.normal,Sx)∧forget f15_D3 Sx=(f15_F3 x0 l12 i0 i1 i2 a b r71 (j + 1)))
 (he:vexec Tryd.prog X call lf 0 fg15 (loopN Tryd.f15 3) (f15_F3 x0 l12 i0 i1 i2 a b r71 n)=some (x,S'))
 (hx:x ≠ Ex.normal):vexec Tryd.prog X call lf 0 fg15 (Go.Code.loop (loopN Tryd.f15 3)) (f15_S12 x0 l12 i0 i1 i2 a b r71)=some (x,S') :=
  loop_runK (by kernel_rfl) (fun j=>(f15_F3 x0 l12 i0 i1 i2 a b r71 j)) n hn (by show forget f15_D3 (f15_S12 x0 l12 i0 i1 i2 a b r71)=(f15_F3 x0 l12 i0 i1 i2 a b r71 0); unfold f15_F3; show _=_; kernel_rfl) hs he hx
theorem f15_s3_tt (x0:Sgn)(X:Ext)(call:Caller)(lf:Nat)(l12:List ByteArray)(i0 i1 i2:Nat)(a:ByteArray)(c:List ByteArray)(r71:List AV)(i3:Nat)(d:ByteArray)(r88:List AV)
 (h0:decide ((↑i3:Int)<(↑c.length:Int))=true)
 (h1:kiq 22 [Ob.cells (gQ x0)] (sQ c) (i6 (↑i3:Int)) (st d::r88))
 (h2:cvq X call false 24 [AV.agg (gQ x0),st d] [Ob.cells (gQ x0)] (bo true))
 (e0:(↑(i3 + 1):Int)=w6 ((↑i3:Int) + 1)):∃ Sx,vexec Tryd.prog X call lf 0 fg15 (loopN Tryd.f15 3) (f15_F3 x0 l12 i0 i1 i2 a c r71 i3)=some (Ex.normal,Sx)∧forget f15_D3 Sx=(f15_F3 x0 l12 i0 i1 i2 a c r71 (i3 + 1)) :=
  ⟨stOf 96 [2,6,20,21,22,23,24,25,26,27,28,29,30,31,32,33,34,35,36,37,38,39,40,41,42,43,44,45,46,47,48,49,50,51,57,58,59,60,61,62,63,64,65,95] [(0,AV.agg (gQ x0)),(1,AV.ref 0 0),(3,sQ l12),(4,i6 (↑i0:Int)),(8,AV.eaddr [st a,sQ c]),(10,st d),(11,AV.agg (gQ x0)),(12,sQ l12),(13,sQ l12),(14,i6 (↑l12.length:Int)),(15,bo false),(16,i6 (↑i0:Int)),(17,sQ l12),(18,i6 (↑l12.length:Int)),(19,bo false),(52,AV.ref 0 1),(53,cQ x0.consts),(54,i6 (↑x0.consts.length:Int)),(55,i6 (↑i1:Int)),(56,bo false),(66,AV.ref 0 2),(67,pQ x0.preds),(68,i6 (↑x0.preds.length:Int)),(69,i6 (↑i2:Int)),(70,bo true),(71,AV.eaddr (st a::sQ c::r71)),(72,AV.agg [st a,sQ c]),(73,AV.eaddr [sQ c]),(74,sQ c),(75,i6 (↑c.length:Int)),(76,bo false),(77,bo false),(78,AV.eaddr [sQ c]),(79,sQ c),(80,i6 (↑c.length:Int)),(81,bo false),(82,bo false),(83,AV.eaddr [sQ c]),(84,sQ c),(85,i6 (↑c.length:Int)),(86,i6 (w6 ((↑i3:Int) + 1))),(87,bo true),(88,AV.eaddr (st d::r88)),(89,st d),(90,AV.agg (gQ x0)),(91,st d),(92,bo true),(93,bo false),(94,i6 (w6 ((↑i3:Int) + 1)))] [Ob.cells (gQ x0)],around_sound (ans:=[(1,Ans.b true),(4,Ans.v (AV.eaddr (st d::r88))),(10,Ans.v (bo true))]) (by kernel_rfl) (ai h0 (ai h1 (ai h2 trivial))),by unfold f15_F3; rw [e0]; show _=_; kernel_rfl⟩
def f15_S13 (x0:Sgn)(l12:List ByteArray)(i0 i1 i2:Nat)(a:ByteArray)(b:List ByteArray)(r71:List AV)(i3:Nat)(c:ByteArray)(r88:List AV):St :=
  stOf 96 [6,20,21,22,23,24,25,26,27,28,29,30,31,32,33,34,35,36,37,38,39,40,41,42,43,44,45,46,47,48,49,50,51,57,58,59,60,61,62,63,64,65,94,95] [(0,AV.agg (gQ x0)),(1,AV.ref 0 0),(2,bo false),(3,sQ l12),(4,i6 (↑i0:Int)),(8,AV.eaddr [st a,sQ b]),(10,st c),(11,AV.agg (gQ x0)),(12,sQ l12),(13,sQ l12),(14,i6 (↑l12.length:Int)),(15,bo false),(16,i6 (↑i0:Int)),(17,sQ l12),(18,i6 (↑l12.length:Int)),(19,bo false),(52,AV.ref 0 1),(53,cQ x0.consts),(54,i6 (↑x0.consts.length:Int)),(55,i6 (↑i1:Int)),(56,bo false),(66,AV.ref 0 2),(67,pQ x0.preds),(68,i6 (↑x0.preds.length:Int)),(69,i6 (↑i2:Int)),(70,bo true),(71,AV.eaddr (st a::sQ b::r71)),(72,AV.agg [st a,sQ b]),(73,AV.eaddr [sQ b]),(74,sQ b),(75,i6 (↑b.length:Int)),(76,bo false),(77,bo false),(78,AV.eaddr [sQ b]),(79,sQ b),(80,i6 (↑b.length:Int)),(81,bo false),(82,bo false),(83,AV.eaddr [sQ b]),(84,sQ b),(85,i6 (↑b.length:Int)),(86,i6 (↑i3:Int)),(87,bo true),(88,AV.eaddr (st c::r88)),(89,st c),(90,AV.agg (gQ x0)),(91,st c),(92,bo false),(93,bo true)] [Ob.cells (gQ x0)]
theorem f15_r3_tf (x0:Sgn)(X:Ext)(call:Caller)(lf:Nat)(l12:List ByteArray)(i0 i1 i2:Nat)(a:ByteArray)(c:List ByteArray)(r71:List AV)(i3:Nat)(d:ByteArray)(r88:List AV)
 (h0:decide ((↑i3:Int)<(↑c.length:Int))=true)
 (h1:kiq 22 [Ob.cells (gQ x0)] (sQ c) (i6 (↑i3:Int)) (st d::r88))
 (h2:cvq X call false 24 [AV.agg (gQ x0),st d] [Ob.cells (gQ x0)] (bo false)):vexec Tryd.prog X call lf 0 fg15 (loopN Tryd.f15 3) (f15_F3 x0 l12 i0 i1 i2 a c r71 i3)=some (Ex.ret,(f15_S13 x0 l12 i0 i1 i2 a c r71 i3 d r88)) :=
  around_sound (ans:=[(1,Ans.b true),(4,Ans.v (AV.eaddr (st d::r88))),(10,Ans.v (bo false))]) (by kernel_rfl) (ai h0 (ai h1 (ai h2 trivial)))
theorem f15_r2_tffltf (x0:Sgn)(X:Ext)(call:Caller)(lf:Nat)(l12:List ByteArray)(i0 i1 i2:Nat)(a:ByteArray)(c:List ByteArray)(r71:List AV)(i3:Nat)(d:ByteArray)(r88:List AV)
 (h0:decide ((↑i2:Int)<(↑x0.preds.length:Int))=true)
 (h1:kiq 24 [Ob.cells (gQ x0)] (pQ x0.preds) (i6 (↑i2:Int)) (st a::sQ c::r71))
 (h2:decide ((↑c.length:Int)<1)=false)
 (h3:decide ((↑c.length:Int)>3)=false)
 (h4:vexec Tryd.prog X call lf 0 fg15 (Code.loop (loopN Tryd.f15 3)) (f15_S12 x0 l12 i0 i1 i2 a c r71)=some (Ex.ret,(f15_S13 x0 l12 i0 i1 i2 a c r71 i3 d r88))):vexec Tryd.prog X call lf 0 fg15 (loopN Tryd.f15 2) (f15_F2 x0 l12 i0 i1 i2)=some (Ex.ret,(f15_S13 x0 l12 i0 i1 i2 a c r71 i3 d r88)) :=
  around_sound (ans:=[(1,Ans.b true),(4,Ans.v (AV.eaddr (st a::sQ c::r71))),(10,Ans.b false),(19,Ans.b false),(27,Ans.l Ex.ret (f15_S13 x0 l12 i0 i1 i2 a c r71 i3 d r88))]) (by kernel_rfl) (ai h0 (ai h1 (ai h2 (ai h3 (ai h4 trivial)))))
theorem f15_pflflfltffltf (x0:Sgn)(X:Ext)(call:Caller)(lf:Nat)(l12:List ByteArray)(i0 i1 i2:Nat)(a:ByteArray)(c:List ByteArray)(r71:List AV)(i3:Nat)(d:ByteArray)(r88:List AV)
 (h0:cvq X call false 33 [AV.agg (gQ x0)] [Ob.cells (gQ x0)] (sQ l12))
 (h1:decide ((↑l12.length:Int)>256)=false)
 (h2:vexec Tryd.prog X call lf 0 fg15 (Code.loop (loopN Tryd.f15 0)) (f15_S0 x0 l12)=some (Ex.exit 0,(f15_S5 x0 l12 i0)))
 (h3:vexec Tryd.prog X call lf 0 fg15 (Code.loop (loopN Tryd.f15 1)) (f15_S6 x0 l12 i0)=some (Ex.exit 2,(f15_S8 x0 l12 i0 i1)))
 (h4:vexec Tryd.prog X call lf 0 fg15 (Code.loop (loopN Tryd.f15 2)) (f15_S9 x0 l12 i0 i1)=some (Ex.ret,(f15_S13 x0 l12 i0 i1 i2 a c r71 i3 d r88))):vbody Tryd.prog X call lf fg15 Tryd.f15 (codeOf Tryd.f15) [AV.agg (sgnC x0)] [] 0=some (bo false,[Ob.cells (gQ x0)]) :=
  along_sound (ans:=[(5,Ans.v (sQ l12)),(10,Ans.b false),(14,Ans.l (Ex.exit 0) (f15_S5 x0 l12 i0)),(20,Ans.l (Ex.exit 2) (f15_S8 x0 l12 i0 i1)),(26,Ans.l Ex.ret (f15_S13 x0 l12 i0 i1 i2 a c r71 i3 d r88))]) (by kernel_rfl) (ai h0 (ai h1 (ai h2 (ai h3 (ai h4 trivial)))))
def f15_S14 (x0:Sgn)(l12:List ByteArray)(i0 i1 i2:Nat)(a:ByteArray)(b:List ByteArray)(r71:List AV)(i3:Nat):St :=
  stOf 96 [2,6,10,20,21,22,23,24,25,26,27,28,29,30,31,32,33,34,35,36,37,38,39,40,41,42,43,44,45,46,47,48,49,50,51,57,58,59,60,61,62,63,64,65,88,89,90,91,92,93,94,95] [(0,AV.agg (gQ x0)),(1,AV.ref 0 0),(3,sQ l12),(4,i6 (↑i0:Int)),(8,AV.eaddr [st a,sQ b]),(11,AV.agg (gQ x0)),(12,sQ l12),(13,sQ l12),(14,i6 (↑l12.length:Int)),(15,bo false),(16,i6 (↑i0:Int)),(17,sQ l12),(18,i6 (↑l12.length:Int)),(19,bo false),(52,AV.ref 0 1),(53,cQ x0.consts),(54,i6 (↑x0.consts.length:Int)),(55,i6 (↑i1:Int)),(56,bo false),(66,AV.ref 0 2),(67,pQ x0.preds),(68,i6 (↑x0.preds.length:Int)),(69,i6 (↑i2:Int)),(70,bo true),(71,AV.eaddr (st a::sQ b::r71)),(72,AV.agg [st a,sQ b]),(73,AV.eaddr [sQ b]),(74,sQ b),(75,i6 (↑b.length:Int)),(76,bo false),(77,bo false),(78,AV.eaddr [sQ b]),(79,sQ b),(80,i6 (↑b.length:Int)),(81,bo false),(82,bo false),(83,AV.eaddr [sQ b]),(84,sQ b),(85,i6 (↑b.length:Int)),(86,i6 (↑i3:Int)),(87,bo false)] [Ob.cells (gQ x0)]
theorem f15_r3_f (x0:Sgn)(X:Ext)(call:Caller)(lf:Nat)(l12:List ByteArray)(i0 i1 i2:Nat)(a:ByteArray)(c:List ByteArray)(r71:List AV)(i3:Nat)
 (h0:decide ((↑i3:Int)<(↑c.length:Int))=false):vexec Tryd.prog X call lf 0 fg15 (loopN Tryd.f15 3) (f15_F3 x0 l12 i0 i1 i2 a c r71 i3)=some (Ex.exit 6,(f15_S14 x0 l12 i0 i1 i2 a c r71 i3)) :=
  around_sound (ans:=[(1,Ans.b false)]) (by kernel_rfl) (ai h0 trivial)
theorem f15_s2_tfflf (x0:Sgn)(X:Ext)(call:Caller)(lf:Nat)(l12:List ByteArray)(i0 i1 i2:Nat)(a:ByteArray)(c:List ByteArray)(r71:List AV)(i3:Nat)
 (h0:decide ((↑i2:Int)<(↑x0.preds.length:Int))=true)
 (h1:kiq 24 [Ob.cells (gQ x0)] (pQ x0.preds) (i6 (↑i2:Int)) (st a::sQ c::r71))
 (h2:decide ((↑c.length:Int)<1)=false)
 (h3:decide ((↑c.length:Int)>3)=false)
 (h4:vexec Tryd.prog X call lf 0 fg15 (Code.loop (loopN Tryd.f15 3)) (f15_S12 x0 l12 i0 i1 i2 a c r71)=some (Ex.exit 6,(f15_S14 x0 l12 i0 i1 i2 a c r71 i3)))
 (e0:(↑(i2 + 1):Int)=w6 ((↑i2:Int) + 1)):∃ Sx,vexec Tryd.prog X call lf 0 fg15 (loopN Tryd.f15 2) (f15_F2 x0 l12 i0 i1 i2)=some (Ex.normal,Sx)∧forget f15_D2 Sx=(f15_F2 x0 l12 i0 i1 (i2 + 1)) :=
  ⟨stOf 96 [2,6,10,20,21,22,23,24,25,26,27,28,29,30,31,32,33,34,35,36,37,38,39,40,41,42,43,44,45,46,47,48,49,50,51,57,58,59,60,61,62,63,64,65,88,89,90,91,92,93,94] [(0,AV.agg (gQ x0)),(1,AV.ref 0 0),(3,sQ l12),(4,i6 (↑i0:Int)),(8,AV.eaddr [st a,sQ c]),(11,AV.agg (gQ x0)),(12,sQ l12),(13,sQ l12),(14,i6 (↑l12.length:Int)),(15,bo false),(16,i6 (↑i0:Int)),(17,sQ l12),(18,i6 (↑l12.length:Int)),(19,bo false),(52,AV.ref 0 1),(53,cQ x0.consts),(54,i6 (↑x0.consts.length:Int)),(55,i6 (↑i1:Int)),(56,bo false),(66,AV.ref 0 2),(67,pQ x0.preds),(68,i6 (↑x0.preds.length:Int)),(69,i6 (w6 ((↑i2:Int) + 1))),(70,bo true),(71,AV.eaddr (st a::sQ c::r71)),(72,AV.agg [st a,sQ c]),(73,AV.eaddr [sQ c]),(74,sQ c),(75,i6 (↑c.length:Int)),(76,bo false),(77,bo false),(78,AV.eaddr [sQ c]),(79,sQ c),(80,i6 (↑c.length:Int)),(81,bo false),(82,bo false),(83,AV.eaddr [sQ c]),(84,sQ c),(85,i6 (↑c.length:Int)),(86,i6 (↑i3:Int)),(87,bo false),(95,i6 (w6 ((↑i2:Int) + 1)))] [Ob.cells (gQ x0)],around_sound (ans:=[(1,Ans.b true),(4,Ans.v (AV.eaddr (st a::sQ c::r71))),(10,Ans.b false),(19,Ans.b false),(27,Ans.l (Ex.exit 6) (f15_S14 x0 l12 i0 i1 i2 a c r71 i3))]) (by kernel_rfl) (ai h0 (ai h1 (ai h2 (ai h3 (ai h4 trivial))))),by unfold f15_F2; rw [e0]; show _=_; kernel_rfl⟩
def f15_S15 (x0:Sgn)(l12:List ByteArray)(i0 i1 i2:Nat):St :=
  stOf 96 [2,6,8,10,20,21,22,23,24,25,26,27,28,29,30,31,32,33,34,35,36,37,38,39,40,41,42,43,44,45,46,47,48,49,50,51,57,58,59,60,61,62,63,64,65,71,72,73,74,75,76,77,78,79,80,81,82,83,84,85,86,87,88,89,90,91,92,93,94,95] [(0,AV.agg (gQ x0)),(1,AV.ref 0 0),(3,sQ l12),(4,i6 (↑i0:Int)),(11,AV.agg (gQ x0)),(12,sQ l12),(13,sQ l12),(14,i6 (↑l12.length:Int)),(15,bo false),(16,i6 (↑i0:Int)),(17,sQ l12),(18,i6 (↑l12.length:Int)),(19,bo false),(52,AV.ref 0 1),(53,cQ x0.consts),(54,i6 (↑x0.consts.length:Int)),(55,i6 (↑i1:Int)),(56,bo false),(66,AV.ref 0 2),(67,pQ x0.preds),(68,i6 (↑x0.preds.length:Int)),(69,i6 (↑i2:Int)),(70,bo false)] [Ob.cells (gQ x0)]
theorem f15_r2_f (x0:Sgn)(X:Ext)(call:Caller)(lf:Nat)(l12:List ByteArray)(i0 i1 i2:Nat)
 (h0:decide ((↑i2:Int)<(↑x0.preds.length:Int))=false):vexec Tryd.prog X call lf 0 fg15 (loopN Tryd.f15 2) (f15_F2 x0 l12 i0 i1 i2)=some (Ex.exit 4,(f15_S15 x0 l12 i0 i1 i2)) :=
  around_sound (ans:=[(1,Ans.b false)]) (by kernel_rfl) (ai h0 trivial)
theorem f15_pflflflf (x0:Sgn)(X:Ext)(call:Caller)(lf:Nat)(l12:List ByteArray)(i0 i1 i2:Nat)
 (h0:cvq X call false 33 [AV.agg (gQ x0)] [Ob.cells (gQ x0)] (sQ l12))
 (h1:decide ((↑l12.length:Int)>256)=false)
 (h2:vexec Tryd.prog X call lf 0 fg15 (Code.loop (loopN Tryd.f15 0)) (f15_S0 x0 l12)=some (Ex.exit 0,(f15_S5 x0 l12 i0)))
 (h3:vexec Tryd.prog X call lf 0 fg15 (Code.loop (loopN Tryd.f15 1)) (f15_S6 x0 l12 i0)=some (Ex.exit 2,(f15_S8 x0 l12 i0 i1)))
 (h4:vexec Tryd.prog X call lf 0 fg15 (Code.loop (loopN Tryd.f15 2)) (f15_S9 x0 l12 i0 i1)=some (Ex.exit 4,(f15_S15 x0 l12 i0 i1 i2))):vbody Tryd.prog X call lf fg15 Tryd.f15 (codeOf Tryd.f15) [AV.agg (sgnC x0)] [] 0=some (bo true,[Ob.cells (gQ x0)]) :=
  along_sound (ans:=[(5,Ans.v (sQ l12)),(10,Ans.b false),(14,Ans.l (Ex.exit 0) (f15_S5 x0 l12 i0)),(20,Ans.l (Ex.exit 2) (f15_S8 x0 l12 i0 i1)),(26,Ans.l (Ex.exit 4) (f15_S15 x0 l12 i0 i1 i2))]) (by kernel_rfl) (ai h0 (ai h1 (ai h2 (ai h3 (ai h4 trivial)))))
def f15_o0 (l12:List ByteArray)(i0:Nat)(a b:ByteArray)(b0 b1:Bool):Nat :=
  (match decide ((↑i0:Int)<(↑l12.length:Int)) with
  | true=>(match b0 with
    | true=>(match (ByteArray.toList a == ByteArray.toList (ByteArray.mk #[116,105,109,101])) with
      | true=>1
      | false=>(match (ByteArray.toList b == ByteArray.toList (ByteArray.mk #[110,117,109,98,101,114])) with
        | true=>2
        | false=>(match b1 with
          | true=>3
          | false=>0)))
    | false=>4)
  | false=>5)
theorem f15_B0 (x0:Sgn)(X:Ext)(call:Caller)(lf:Nat)(l12:List ByteArray)(i0:Nat)(a:ByteArray)(r24:List AV)(b:ByteArray)(r31:List AV)(c:ByteArray)(r38:List AV)(l45:List ByteArray)(k45:LK)(d:ByteArray)(r48:List AV)(b0 b1:Bool)
 (g0:decide ((↑i0:Int)<(↑l12.length:Int))=true→kiq 22 [Ob.cells (gQ x0)] (sQ l12) (i6 (↑i0:Int)) (st a::r24))
 (g1:decide ((↑i0:Int)<(↑l12.length:Int))=true→cvq X call true 34 [st a] [Ob.cells (gQ x0)] (bo b0))
 (g2:decide ((↑i0:Int)<(↑l12.length:Int))=true→b0=true→kiq 22 [Ob.cells (gQ x0)] (sQ l12) (i6 (↑i0:Int)) (st b::r31))
 (g3:decide ((↑i0:Int)<(↑l12.length:Int))=true→b0=true→(ByteArray.toList b == ByteArray.toList (ByteArray.mk #[116,105,109,101]))=false→kiq 22 [Ob.cells (gQ x0)] (sQ l12) (i6 (↑i0:Int)) (st c::r38))
 (g4:decide ((↑i0:Int)<(↑l12.length:Int))=true→b0=true→(ByteArray.toList b == ByteArray.toList (ByteArray.mk #[116,105,109,101]))=false→(ByteArray.toList c == ByteArray.toList (ByteArray.mk #[110,117,109,98,101,114]))=false→slc Tryd.prog 22 [Ob.cells (gQ x0)] true 0 (sQ l12) none (some (i6 (↑i0:Int))) none=some (AV.list k45 l45.length 1 (List.map st l45),[Ob.cells (gQ x0)]))
 (g5:decide ((↑i0:Int)<(↑l12.length:Int))=true→b0=true→(ByteArray.toList b == ByteArray.toList (ByteArray.mk #[116,105,109,101]))=false→(ByteArray.toList c == ByteArray.toList (ByteArray.mk #[110,117,109,98,101,114]))=false→kiq 22 [Ob.cells (gQ x0)] (sQ l12) (i6 (↑i0:Int)) (st d::r48))
 (g6:decide ((↑i0:Int)<(↑l12.length:Int))=true→b0=true→(ByteArray.toList b == ByteArray.toList (ByteArray.mk #[116,105,109,101]))=false→(ByteArray.toList c == ByteArray.toList (ByteArray.mk #[110,117,109,98,101,114]))=false→cvq X call true 35 [AV.list k45 l45.length 1 (List.map st l45),st d] [Ob.cells (gQ x0)] (bo b1))
 (e0:decide ((↑i0:Int)<(↑l12.length:Int))=true→(↑(i0 + 1):Int)=w6 ((↑i0:Int) + 1)) :
    (f15_o0 l12 i0 b c b0 b1=0→∃ Sx,vexec Tryd.prog X call lf 0 fg15 (loopN Tryd.f15 0) (f15_F0 x0 l12 i0)=some (Ex.normal,Sx)∧forget f15_D0 Sx=(f15_F0 x0 l12 (i0 + 1)))∧(f15_o0 l12 i0 b c b0 b1=1→vexec Tryd.prog X call lf 0 fg15 (loopN Tryd.f15 0) (f15_F0 x0 l12 i0)=some (Ex.ret,(f15_S1 x0 l12 i0 a r24 b r31)))∧(f15_o0 l12 i0 b c b0 b1=2→vexec Tryd.prog X call lf 0 fg15 (loopN Tryd.f15 0) (f15_F0 x0 l12 i0)=some (Ex.ret,(f15_S2 x0 l12 i0 a r24 b r31 c r38)))∧(f15_o0 l12 i0 b c b0 b1=3→vexec Tryd.prog X call lf 0 fg15 (loopN Tryd.f15 0) (f15_F0 x0 l12 i0)=some (Ex.ret,(f15_S3 x0 l12 i0 a r24 b r31 c r38 l45 k45 d r48)))∧(f15_o0 l12 i0 b c b0 b1=4→vexec Tryd.prog X call lf 0 fg15 (loopN Tryd.f15 0) (f15_F0 x0 l12 i0)=some (Ex.ret,(f15_S4 x0 l12 i0 a r24)))∧(f15_o0 l12 i0 b c b0 b1=5→vexec Tryd.prog X call lf 0 fg15 (loopN Tryd.f15 0) (f15_F0 x0 l12 i0)=some (Ex.exit 0,(f15_S5 x0 l12 i0))):=by
  unfold f15_o0
  cases c0:decide ((↑i0:Int)<(↑l12.length:Int)) with
  | true =>
    cases c1:b0 with
    | true =>
      cases c2:(ByteArray.toList b == ByteArray.toList (ByteArray.mk #[116,105,109,101])) with
      | true =>
        exact ⟨fun h=>nq h,fun _=>f15_r0_ttt x0 X call lf l12 i0 a r24 b r31 c0 (g0 c0) (by have:=(g1 c0); rw [c1] at this; exact this) (g2 c0 c1) c2,fun h=>nq h,fun h=>nq h,fun h=>nq h,fun h=>nq h⟩
      | false =>
        cases c3:(ByteArray.toList c == ByteArray.toList (ByteArray.mk #[110,117,109,98,101,114])) with
        | true =>
          exact ⟨fun h=>nq h,fun h=>nq h,fun _=>f15_r0_ttft x0 X call lf l12 i0 a r24 b r31 c r38 c0 (g0 c0) (by have:=(g1 c0); rw [c1] at this; exact this) (g2 c0 c1) c2 (g3 c0 c1 c2) c3,fun h=>nq h,fun h=>nq h,fun h=>nq h⟩
        | false =>
          cases c4:b1 with
          | true =>
            exact ⟨fun h=>nq h,fun h=>nq h,fun h=>nq h,fun _=>f15_r0_ttfft x0 X call lf l12 i0 a r24 b r31 c r38 l45 k45 d r48 c0 (g0 c0) (by have:=(g1 c0); rw [c1] at this; exact this) (g2 c0 c1) c2 (g3 c0 c1 c2) c3 (g4 c0 c1 c2 c3) (g5 c0 c1 c2 c3) (by have:=(g6 c0 c1 c2 c3); rw [c4] at this; exact this),fun h=>nq h,fun h=>nq h⟩
          | false =>
            exact ⟨fun _=>f15_s0_ttfff x0 X call lf l12 i0 a r24 b r31 c r38 l45 k45 d r48 c0 (g0 c0) (by have:=(g1 c0); rw [c1] at this; exact this) (g2 c0 c1) c2 (g3 c0 c1 c2) c3 (g4 c0 c1 c2 c3) (g5 c0 c1 c2 c3) (by have:=(g6 c0 c1 c2 c3); rw [c4] at this; exact this) (e0 c0),fun h=>nq h,fun h=>nq h,fun h=>nq h,fun h=>nq h,fun h=>nq h⟩
    | false =>
      exact ⟨fun h=>nq h,fun h=>nq h,fun h=>nq h,fun h=>nq h,fun _=>f15_r0_tf x0 X call lf l12 i0 a r24 c0 (g0 c0) (by have:=(g1 c0); rw [c1] at this; exact this),fun h=>nq h⟩
  | false =>
    exact ⟨fun h=>nq h,fun h=>nq h,fun h=>nq h,fun h=>nq h,fun h=>nq h,fun _=>f15_r0_f x0 X call lf l12 i0 c0⟩
def f15_o1 (x0:Sgn)(i1:Nat)(b0:Bool):Nat :=
  (match decide ((↑i1:Int)<(↑x0.consts.length:Int)) with
  | true=>(match b0 with
    | true=>0
    | false=>1)
  | false=>2)
theorem f15_B1 (x0:Sgn)(X:Ext)(call:Caller)(lf:Nat)(l12:List ByteArray)(i0 i1:Nat)(a b:ByteArray)(r57:List AV)(b0:Bool)
 (g0:decide ((↑i1:Int)<(↑x0.consts.length:Int))=true→kiq 23 [Ob.cells (gQ x0)] (cQ x0.consts) (i6 (↑i1:Int)) (st a::st b::r57))
 (g1:decide ((↑i1:Int)<(↑x0.consts.length:Int))=true→cvq X call false 35 [sQ x0.sorts,st b] [Ob.cells (gQ x0)] (bo b0))
 (e0:decide ((↑i1:Int)<(↑x0.consts.length:Int))=true→(↑(i1 + 1):Int)=w6 ((↑i1:Int) + 1)) :
    (f15_o1 x0 i1 b0=0→∃ Sx,vexec Tryd.prog X call lf 0 fg15 (loopN Tryd.f15 1) (f15_F1 x0 l12 i0 i1)=some (Ex.normal,Sx)∧forget f15_D1 Sx=(f15_F1 x0 l12 i0 (i1 + 1)))∧(f15_o1 x0 i1 b0=1→vexec Tryd.prog X call lf 0 fg15 (loopN Tryd.f15 1) (f15_F1 x0 l12 i0 i1)=some (Ex.ret,(f15_S7 x0 l12 i0 i1 a b r57)))∧(f15_o1 x0 i1 b0=2→vexec Tryd.prog X call lf 0 fg15 (loopN Tryd.f15 1) (f15_F1 x0 l12 i0 i1)=some (Ex.exit 2,(f15_S8 x0 l12 i0 i1))):=by
  unfold f15_o1
  cases c0:decide ((↑i1:Int)<(↑x0.consts.length:Int)) with
  | true =>
    cases c1:b0 with
    | true =>
      exact ⟨fun _=>f15_s1_tt x0 X call lf l12 i0 i1 a b r57 c0 (g0 c0) (by have:=(g1 c0); rw [c1] at this; exact this) (e0 c0),fun h=>nq h,fun h=>nq h⟩
    | false =>
      exact ⟨fun h=>nq h,fun _=>f15_r1_tf x0 X call lf l12 i0 i1 a b r57 c0 (g0 c0) (by have:=(g1 c0); rw [c1] at this; exact this),fun h=>nq h⟩
  | false =>
    exact ⟨fun h=>nq h,fun h=>nq h,fun _=>f15_r1_f x0 X call lf l12 i0 i1 c0⟩
def f15_o3 (a:List ByteArray)(i3:Nat)(b0:Bool):Nat :=
  (match decide ((↑i3:Int)<(↑a.length:Int)) with
  | true=>(match b0 with
    | true=>0
    | false=>1)
  | false=>2)
theorem f15_B3 (x0:Sgn)(X:Ext)(call:Caller)(lf:Nat)(l12:List ByteArray)(i0 i1 i2:Nat)(a:ByteArray)(b:List ByteArray)(r71:List AV)(i3:Nat)(c:ByteArray)(r88:List AV)(b0:Bool)
 (g0:decide ((↑i3:Int)<(↑b.length:Int))=true→kiq 22 [Ob.cells (gQ x0)] (sQ b) (i6 (↑i3:Int)) (st c::r88))
 (g1:decide ((↑i3:Int)<(↑b.length:Int))=true→cvq X call false 24 [AV.agg (gQ x0),st c] [Ob.cells (gQ x0)] (bo b0))
 (e0:decide ((↑i3:Int)<(↑b.length:Int))=true→(↑(i3 + 1):Int)=w6 ((↑i3:Int) + 1)) :
    (f15_o3 b i3 b0=0→∃ Sx,vexec Tryd.prog X call lf 0 fg15 (loopN Tryd.f15 3) (f15_F3 x0 l12 i0 i1 i2 a b r71 i3)=some (Ex.normal,Sx)∧forget f15_D3 Sx=(f15_F3 x0 l12 i0 i1 i2 a b r71 (i3 + 1)))∧(f15_o3 b i3 b0=1→vexec Tryd.prog X call lf 0 fg15 (loopN Tryd.f15 3) (f15_F3 x0 l12 i0 i1 i2 a b r71 i3)=some (Ex.ret,(f15_S13 x0 l12 i0 i1 i2 a b r71 i3 c r88)))∧(f15_o3 b i3 b0=2→vexec Tryd.prog X call lf 0 fg15 (loopN Tryd.f15 3) (f15_F3 x0 l12 i0 i1 i2 a b r71 i3)=some (Ex.exit 6,(f15_S14 x0 l12 i0 i1 i2 a b r71 i3))):=by
  unfold f15_o3
  cases c0:decide ((↑i3:Int)<(↑b.length:Int)) with
  | true =>
    cases c1:b0 with
    | true =>
      exact ⟨fun _=>f15_s3_tt x0 X call lf l12 i0 i1 i2 a b r71 i3 c r88 c0 (g0 c0) (by have:=(g1 c0); rw [c1] at this; exact this) (e0 c0),fun h=>nq h,fun h=>nq h⟩
    | false =>
      exact ⟨fun h=>nq h,fun _=>f15_r3_tf x0 X call lf l12 i0 i1 i2 a b r71 i3 c r88 c0 (g0 c0) (by have:=(g1 c0); rw [c1] at this; exact this),fun h=>nq h⟩
  | false =>
    exact ⟨fun h=>nq h,fun h=>nq h,fun _=>f15_r3_f x0 X call lf l12 i0 i1 i2 a b r71 i3 c0⟩
end Go.Proofs.Sig
end
/- Signature: Clone, Clip. -/
section
open Go Go.Vm Go.Proofs
namespace Go.Proofs.Sig
theorem appended_strs [Fixed] {σ:List Ob} (F:List ByteArray):appended σ 1 (strsV F)=some (F.length,F.flatMap fun s=>[AV.str s]):=by
  have h : appended σ 1 (.list .ro F.length 1 (F.flatMap fun s => [AV.str s])) = some (F.length, F.flatMap fun s => [AV.str s]) := by
    simp only [appended]
    by_cases h:F.length=0
    · have : F = [] := List.eq_nil_of_length_eq_zero h
      subst this; rfl
    · rw [if_neg h,if_pos trivial]
  rw [strs_flat] at h ⊢
  exact h
def opsF (fn:Func) (k:Nat):Array Oper:=opsR (regN fn k)
def cloneC (fn:Func):Code := .seq (.region 0 (opsF fn 0) false) (.seq (.seq (.region 1 (opsF fn 1) false) (.cond (.tmp 4) (.seq (.region 2 (opsF fn 2) false) .ret) .skip)) (.seq (.region 3 (opsF fn 3) false) .ret))
def preF (fn:Func) (k n:Nat):List Oper:=(opsF fn k).toList.take n
def opF (fn:Func) (k n:Nat):Oper:=((opsF fn k).toList[n]?).getD default
theorem body48:Tryd.f48.body=some (cloneC Tryd.f48):=by kernel_rfl
section
variable {X:Ext} {call:Caller} {lf:Nat}
def S48 (F:List ByteArray):St := { tmps:=[strsV F] ++ List.replicate 7 .undef,st:=[] }
theorem r48_0 (F:List ByteArray):vexec Tryd.prog X call lf 0 noFg (.region 0 (opsF Tryd.f48 0) false) (S48 F)=some (.normal,{ tmps:=[strsV F,.undef,.list .nil 0 0 [],.undef,.undef,.undef,.undef,.undef],st:=[] }):=by kernel_rfl
theorem r48_2 (F:List ByteArray) (b:Bool):vexec Tryd.prog X call lf 0 noFg (.seq (.region 2 (opsF Tryd.f48 2) false) .ret) { tmps:=[strsV F,.undef,.list .nil 0 0 [],strsV F,.bool b,.undef,.undef,.undef],st:=[] }=some (.ret,{ tmps:=[strsV F,.undef,.list .nil 0 0 [],strsV F,.bool b,.undef,.undef,.undef],st:=[] }):=by kernel_rfl
theorem r48_3 (F:List ByteArray) (b:Bool) (v:AV) (σ:List Ob) (h:appendv Tryd.prog 22 [] 0 (.list .clip 0 1 []) (strsV F)=some (v,σ)):vexec Tryd.prog X call lf 0 noFg (.seq (.region 3 (opsF Tryd.f48 3) false) .ret) { tmps:=[strsV F,.undef,.list .nil 0 0 [],strsV F,.bool b,.undef,.undef,.undef],st:=[] }=some (.ret,{ tmps:=[strsV F,.undef,v,strsV F,.bool b,.list .clip 0 1 [],strsV F,v],st:=σ }) :=
  around_sound (ans:=[(3,Ans.c v σ)]) (by kernel_rfl) (And.intro h trivial)
theorem split48:(opsF Tryd.f48 1).toList=preF Tryd.f48 1 1 ++ [opF Tryd.f48 1 1]:=by kernel_rfl
end
section
variable [Fixed] {X:Ext}
/-- slices.Clone of ByteArray. -/
theorem clone48 (hX:ExtOk Tryd.prog X) {F:List ByteArray} (hF:F.length * 17 ≤ big):CallAt Tryd.prog 48 [strsV F] [] 0 (aSs.enc F) []:=by
  have hC:CallOk Tryd.prog (callerOf fun _ _=>none):=callerOf_ok SpecOk.none'
  have hbig:F.length * 17 ≤ 140737488355328:=hF
  refine call_rel (B:=aSs) (fn:=Tryd.f48) (c:=cloneC Tryd.f48) (R:=fun x T=>(x = .normal ∨ x = .ret)∧∃ r σ',vend Tryd.prog Tryd.f48 [] 0 T=some (r,σ')∧aSs.dec r=some F) Tryd.func48 body48 (of_decide_eq_false (by kernel_rfl)) ?_ (fun x T h=>h)
  refine SR.seq (SR.exec hX hC (lf:=0) (fg:=noFg) (by kernel_rfl) (r48_0 F)) (fun T hT => ?_) (fun x T hx h=>absurd h.1 hx)
  obtain ⟨-,rfl⟩:=hT
  refine SR.seq (R1:=fun x T=>(x = .ret∧∃ b,F=[]∧T = { tmps:=[strsV F,.undef,.list .nil 0 0 [],strsV F,.bool b,.undef,.undef,.undef],st:=[] }) ∨ (x = .normal∧∃ b,T = { tmps:=[strsV F,.undef,.list .nil 0 0 [],strsV F,.bool b,.undef,.undef,.undef],st:=[] })) ?_ (fun T hT => ?_) (fun x T hx h => ?_)
  · refine SR.seq (SR.nilTest hX hC (pre := preF Tryd.f48 1 1) (o := opF Tryd.f48 1 1) (t := 22) (e := 9) (x := .tmp 3) (nb := 22) (d := 4) (n := F.length) (sz := 1) (k := .ro) (cs := F.map .str)
      (S1 := { tmps:=[strsV F,.undef,.list .nil 0 0 [],strsV F,.undef,.undef,.undef,.undef],st:=[] }) split48 (by kernel_rfl) (by kernel_rfl) (by kernel_rfl) (by kernel_rfl) Tryd.underlying22 (by kernel_rfl)) (fun T hT => ?_) (fun x T hx h=>absurd h.1 hx)
    obtain ⟨-,b,hb,rfl⟩:=hT
    refine SR.cond (b:=b) (by rfl) ?_
    cases b with
    | true =>
      refine (SR.exec hX hC (lf:=0) (fg:=noFg) (by kernel_rfl) (r48_2 F true)).mono fun x T h => ?_
      exact .inl ⟨h.1,true,List.eq_nil_of_length_eq_zero (hb rfl),h.2⟩
    | false=>exact SR.skip (.inr ⟨rfl,false,rfl⟩)
  · rcases hT with ⟨h, _⟩ | ⟨-, b, rfl⟩
    · cases h
    · have hg := gr_step (σ0 := []) (l := []) (m := F) (lk := .clip) (sz0 := 1) rowS (.inr rfl) (x := strsV F) (appended_strs F) (by simpa using hF)
      obtain ⟨r,σ',h1,h2,-⟩:=gr_end (A:=Cod.str) (lk := .clip) (sz0:=1) (σ1:=[]) (σ0:=[]) F
      refine (SR.exec hX hC (lf:=0) (fg:=noFg) (by kernel_rfl) (r48_3 F b _ _ hg)).mono fun x T h => ?_
      obtain ⟨rfl,rfl⟩:=h
      exact ⟨.inr rfl,r,σ',h1,h2⟩
  · rcases h with ⟨rfl, b, rfl, rfl⟩ | ⟨rfl, _⟩
    · exact ⟨.inr rfl,.list .nil 0 0 [],[],rfl,rfl⟩
    · exact absurd rfl hx
end
theorem body49:Tryd.f49.body=some (cloneC Tryd.f49):=by kernel_rfl
section
variable {X:Ext} {call:Caller} {lf:Nat}
def S49 (F:List Cst):St := { tmps:=[cstsV F] ++ List.replicate 7 .undef,st:=[] }
theorem r49_0 (F:List Cst):vexec Tryd.prog X call lf 0 noFg (.region 0 (opsF Tryd.f49 0) false) (S49 F)=some (.normal,{ tmps:=[cstsV F,.undef,.list .nil 0 0 [],.undef,.undef,.undef,.undef,.undef],st:=[] }):=by kernel_rfl
theorem r49_2 (F:List Cst) (b:Bool):vexec Tryd.prog X call lf 0 noFg (.seq (.region 2 (opsF Tryd.f49 2) false) .ret) { tmps:=[cstsV F,.undef,.list .nil 0 0 [],cstsV F,.bool b,.undef,.undef,.undef],st:=[] }=some (.ret,{ tmps:=[cstsV F,.undef,.list .nil 0 0 [],cstsV F,.bool b,.undef,.undef,.undef],st:=[] }):=by kernel_rfl
theorem r49_3 (F:List Cst) (b:Bool) (v:AV) (σ:List Ob) (h:appendv Tryd.prog 23 [] 0 (.list .clip 0 2 []) (cstsV F)=some (v,σ)):vexec Tryd.prog X call lf 0 noFg (.seq (.region 3 (opsF Tryd.f49 3) false) .ret) { tmps:=[cstsV F,.undef,.list .nil 0 0 [],cstsV F,.bool b,.undef,.undef,.undef],st:=[] }=some (.ret,{ tmps:=[cstsV F,.undef,v,cstsV F,.bool b,.list .clip 0 2 [],cstsV F,v],st:=σ }) :=
  around_sound (ans:=[(3,Ans.c v σ)]) (by kernel_rfl) (And.intro h trivial)
theorem split49:(opsF Tryd.f49 1).toList=preF Tryd.f49 1 1 ++ [opF Tryd.f49 1 1]:=by kernel_rfl
end
section
variable [Fixed] {X:Ext}
/-- slices.Clone of Cst. -/
theorem clone49 (hX:ExtOk Tryd.prog X) {F:List Cst} (hF:F.length * 33 ≤ big):CallAt Tryd.prog 49 [cstsV F] [] 0 (aCs.enc F) []:=by
  have hC:CallOk Tryd.prog (callerOf fun _ _=>none):=callerOf_ok SpecOk.none'
  have hbig:F.length * 33 ≤ 140737488355328:=hF
  refine call_rel (B:=aCs) (fn:=Tryd.f49) (c:=cloneC Tryd.f49) (R:=fun x T=>(x = .normal ∨ x = .ret)∧∃ r σ',vend Tryd.prog Tryd.f49 [] 0 T=some (r,σ')∧aCs.dec r=some F) Tryd.func49 body49 (of_decide_eq_false (by kernel_rfl)) ?_ (fun x T h=>h)
  refine SR.seq (SR.exec hX hC (lf:=0) (fg:=noFg) (by kernel_rfl) (r49_0 F)) (fun T hT => ?_) (fun x T hx h=>absurd h.1 hx)
  obtain ⟨-,rfl⟩:=hT
  refine SR.seq (R1:=fun x T=>(x = .ret∧∃ b,F=[]∧T = { tmps:=[cstsV F,.undef,.list .nil 0 0 [],cstsV F,.bool b,.undef,.undef,.undef],st:=[] }) ∨ (x = .normal∧∃ b,T = { tmps:=[cstsV F,.undef,.list .nil 0 0 [],cstsV F,.bool b,.undef,.undef,.undef],st:=[] })) ?_ (fun T hT => ?_) (fun x T hx h => ?_)
  · refine SR.seq (SR.nilTest hX hC (pre := preF Tryd.f49 1 1) (o := opF Tryd.f49 1 1) (t := 23) (e := 48) (x := .tmp 3) (nb := 23) (d := 4) (n := F.length) (sz := 2) (k := .ro) (cs := F.flatMap cstC)
      (S1 := { tmps:=[cstsV F,.undef,.list .nil 0 0 [],cstsV F,.undef,.undef,.undef,.undef],st:=[] }) split49 (by kernel_rfl) (by kernel_rfl) (by kernel_rfl) (by kernel_rfl) Tryd.underlying23 (by kernel_rfl)) (fun T hT => ?_) (fun x T hx h=>absurd h.1 hx)
    obtain ⟨-,b,hb,rfl⟩:=hT
    refine SR.cond (b:=b) (by rfl) ?_
    cases b with
    | true =>
      refine (SR.exec hX hC (lf:=0) (fg:=noFg) (by kernel_rfl) (r49_2 F true)).mono fun x T h => ?_
      exact .inl ⟨h.1,true,List.eq_nil_of_length_eq_zero (hb rfl),h.2⟩
    | false=>exact SR.skip (.inr ⟨rfl,false,rfl⟩)
  · rcases hT with ⟨h, _⟩ | ⟨-, b, rfl⟩
    · cases h
    · have hg := gr_step (σ0 := []) (l := []) (m := F) (lk := .clip) (sz0 := 2) rowC (.inr rfl) (x := cstsV F) (appended_row F) (by simpa using hF)
      obtain ⟨r,σ',h1,h2,-⟩:=gr_end (A:=cC) (lk := .clip) (sz0:=2) (σ1:=[]) (σ0:=[]) F
      refine (SR.exec hX hC (lf:=0) (fg:=noFg) (by kernel_rfl) (r49_3 F b _ _ hg)).mono fun x T h => ?_
      obtain ⟨rfl,rfl⟩:=h
      exact ⟨.inr rfl,r,σ',h1,h2⟩
  · rcases h with ⟨rfl, b, rfl, rfl⟩ | ⟨rfl, _⟩
    · exact ⟨.inr rfl,.list .nil 0 0 [],[],rfl,rfl⟩
    · exact absurd rfl hx
end
end Go.Proofs.Sig
end
