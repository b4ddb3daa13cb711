/- Part 8 of the texts of this claim: the evaluator, and what it says of the program's functions. -/
import Derived.Test.YtogacbdboplbfaaDoorOwnF
import Derived.Test.YtogacbdboplbfaaDoorOwnE
import Derived.Test.YtogacbdboplbfaaDoorOwnG
import Derived.Test.YtogacbdboplbfaaDoorOwnC
import Derived.Test.YtogacbdboplbfaaDoorOwnD
set_option linter.unusedSectionVars false
set_option linter.unusedVariables false
set_option linter.unusedSimpArgs false
set_option linter.constructorNameAsVariable false
/- Lexicon: letters; the index of their runes. -/
section
open Go Go.Vm Go.Proofs
namespace Go.Proofs.Lex
structure Lett where
  r:Int
  c:Int
  deriving DecidableEq
abbrev i3 (n:Int):AV := .int .i32 n
def lettC (x:Lett):List AV:=[.int .i32 x.r,.int .u32 x.c]
def lettsV (l:List Lett):AV := .list .ro l.length 2 (l.flatMap lettC)
def d0T:Lett:=⟨0,0⟩
abbrev nT (a:List Lett) (i:Nat):Lett:=a.getD i d0T
abbrev rT (a:List Lett) (i:Nat):List AV:=(a.flatMap lettC).drop (i * 2)
def tT (a:List Lett) (i:Nat):List AV:=(a.drop (i + 1)).flatMap lettC
theorem rT_eq {a:List Lett} {i:Nat} (h:i < a.length):rT a i=lettC (nT a i) ++ (a.drop (i + 1)).flatMap lettC:=by
  unfold rT nT
  rw [flat_drop (fun _=>rfl:∀ x,(lettC x).length=2) a i h,getD_lt h]
theorem at_lett {σ:List Ob} {lk:LK} {a:List Lett} {i:Nat} (h:i < a.length):keep σ (indexAddrv Tryd.prog 52 σ (.list lk a.length 2 (a.flatMap lettC)) (i6 (↑i:Int)))=some (.eaddr (.int .i32 (nT a i).r :: .int .u32 (nT a i).c::tT a i),σ):=by
  rw [at_rows Tryd.underlying52 (by kernel_rfl) (by kernel_rfl) h]
  rw [show (a.flatMap lettC).drop (i * 2)=rT a i from rfl,rT_eq h]
  rfl
section
variable [Fixed]
def cT:Cod Lett:=((Cod.int .i32).prod (Cod.int .u32)).iso (fun x=>⟨x.1,x.2⟩) (fun f=>(f.r,f.c)) (fun _=>rfl) (fun _=>rfl)
def aTs:Arg (List Lett):=Arg.cell cT.list rfl
def aR:Arg Int:=Arg.cell (Cod.int .i32) rfl
end
/-- Which runes have come, each with its first place. -/
def idxR (a:List Lett):Nat→List (Int × Nat)
  | 0=>[]
  | i + 1=>if (idxR a i).any (fun e=>e.1 == (nT a i).r) then idxR a i else idxR a i ++ [((nT a i).r,i)]
def entR (e:Int × Nat):AV × AV:=(i3 e.1,i6 (e.2:Int))
def mapR (l:List (Int × Nat)):List (AV × AV):=l.map entR
theorem look_E (r:Int):∀ (l:List (Int × Nat)),lookupEs (i3 r) (mapR l)=some ((l.find? fun e=>e.1 == r).map fun e=>i6 (e.2:Int))
  | []=>rfl
  | e :: l => by
    show lookupEs (i3 r) (entR e::mapR l)=_
    unfold entR lookupEs
    simp only [if_true]
    rw [List.find?_cons]
    by_cases h:r=e.1
    · subst h; simp
    · have : (e.1 == r) = false := beq_eq_false_iff_ne.2 fun x => h x.symm
      rw [if_neg h,this]
      exact look_E r l
theorem find_any (r:Int) (l:List (Int × Nat)):(l.find? fun e=>e.1 == r).isSome=l.any fun e=>e.1 == r:=by
  rw [Bool.eq_iff_iff,List.find?_isSome,List.any_eq_true]
theorem put_E {r:Int} {k:Nat}:∀ {l:List (Int × Nat)},(l.any fun e=>e.1 == r)=false→putEs (i3 r) (i6 (k:Int)) (mapR l)=some (mapR (l ++ [(r,k)]))
  | [],_=>rfl
  | e :: l, h => by
    simp only [List.any_cons,Bool.or_eq_false_iff] at h
    have hne : ¬ r=e.1:=fun x=>by rw [x] at h; simp at h
    show putEs (i3 r) (i6 (k:Int)) (entR e::mapR l)=_
    unfold entR putEs
    have : lookupEs (i3 r) [(i3 e.1, i6 (e.2 : Int))] = some none := by
      unfold lookupEs
      simp only [if_true]
      rw [if_neg hne]
      rfl
    simp only [this]
    rw [put_E h.2]
    rfl
/-- The IDs that have come. -/
def idsR (L:List Lexm) (i:Nat):List (AV × AV):=(L.take i).map fun x=>(AV.str x.id,AV.bool true)
/-- What the index says of a rune. -/
def hasR (a:List Lett) (r:Int):Bool:=(idxR a a.length).any fun e=>e.1 == r
end Go.Proofs.Lex
end
/- Lexicon: alphabets, Valid, and two laws, walked (printed) -/
section
open Go Go.Vm Go.Proofs
namespace Go.Proofs.Lex
theorem f91_ptt (n0:Int)(X:Ext)(call:Caller)(lf:Nat)
 (h0:decide (0 ≤ n0)=true)
 (h1:decide (n0<55296)=true):vbody Tryd.prog X call lf noFg Tryd.f91 (codeOf Tryd.f91) [AV.int IntKind.i32 n0] [] 0=some (bo true,[]) :=
  along_sound (ans:=[(4,Ans.b true),(9,Ans.b true)]) (by kernel_rfl) (ai h0 (ai h1 trivial))
theorem f91_ptftt (n0:Int)(X:Ext)(call:Caller)(lf:Nat)
 (h0:decide (0 ≤ n0)=true)
 (h1:decide (n0<55296)=false)
 (h2:decide (57343<n0)=true)
 (h3:decide (n0 ≤ 1114111)=true):vbody Tryd.prog X call lf noFg Tryd.f91 (codeOf Tryd.f91) [AV.int IntKind.i32 n0] [] 0=some (bo true,[]) :=
  along_sound (ans:=[(4,Ans.b true),(9,Ans.b false),(15,Ans.b true),(20,Ans.b true)]) (by kernel_rfl) (ai h0 (ai h1 (ai h2 (ai h3 trivial))))
theorem f91_ptftf (n0:Int)(X:Ext)(call:Caller)(lf:Nat)
 (h0:decide (0 ≤ n0)=true)
 (h1:decide (n0<55296)=false)
 (h2:decide (57343<n0)=true)
 (h3:decide (n0 ≤ 1114111)=false):vbody Tryd.prog X call lf noFg Tryd.f91 (codeOf Tryd.f91) [AV.int IntKind.i32 n0] [] 0=some (bo false,[]) :=
  along_sound (ans:=[(4,Ans.b true),(9,Ans.b false),(15,Ans.b true),(20,Ans.b false)]) (by kernel_rfl) (ai h0 (ai h1 (ai h2 (ai h3 trivial))))
theorem f91_ptff (n0:Int)(X:Ext)(call:Caller)(lf:Nat)
 (h0:decide (0 ≤ n0)=true)
 (h1:decide (n0<55296)=false)
 (h2:decide (57343<n0)=false):vbody Tryd.prog X call lf noFg Tryd.f91 (codeOf Tryd.f91) [AV.int IntKind.i32 n0] [] 0=some (bo false,[]) :=
  along_sound (ans:=[(4,Ans.b true),(9,Ans.b false),(15,Ans.b false)]) (by kernel_rfl) (ai h0 (ai h1 (ai h2 trivial)))
theorem f91_pftt (n0:Int)(X:Ext)(call:Caller)(lf:Nat)
 (h0:decide (0 ≤ n0)=false)
 (h1:decide (57343<n0)=true)
 (h2:decide (n0 ≤ 1114111)=true):vbody Tryd.prog X call lf noFg Tryd.f91 (codeOf Tryd.f91) [AV.int IntKind.i32 n0] [] 0=some (bo true,[]) :=
  along_sound (ans:=[(4,Ans.b false),(13,Ans.b true),(18,Ans.b true)]) (by kernel_rfl) (ai h0 (ai h1 (ai h2 trivial)))
theorem f91_pftf (n0:Int)(X:Ext)(call:Caller)(lf:Nat)
 (h0:decide (0 ≤ n0)=false)
 (h1:decide (57343<n0)=true)
 (h2:decide (n0 ≤ 1114111)=false):vbody Tryd.prog X call lf noFg Tryd.f91 (codeOf Tryd.f91) [AV.int IntKind.i32 n0] [] 0=some (bo false,[]) :=
  along_sound (ans:=[(4,Ans.b false),(13,Ans.b true),(18,Ans.b false)]) (by kernel_rfl) (ai h0 (ai h1 (ai h2 trivial)))
theorem f91_pff (n0:Int)(X:Ext)(call:Caller)(lf:Nat)
 (h0:decide (0 ≤ n0)=false)
 (h1:decide (57343<n0)=false):vbody Tryd.prog X call lf noFg Tryd.f91 (codeOf Tryd.f91) [AV.int IntKind.i32 n0] [] 0=some (bo false,[]) :=
  along_sound (ans:=[(4,Ans.b false),(13,Ans.b false)]) (by kernel_rfl) (ai h0 (ai h1 trivial))
def f91_q0 (n0:Int):Nat :=
  (match decide (0 ≤ n0) with
  | true=>(match decide (n0<55296) with
    | true=>0
    | false=>(match decide (57343<n0) with
      | true=>(match decide (n0 ≤ 1114111) with
        | true=>0
        | false=>1)
      | false=>1))
  | false=>(match decide (57343<n0) with
    | true=>(match decide (n0 ≤ 1114111) with
      | true=>0
      | false=>1)
    | false=>1))
theorem f91_P0 (n0:Int)(X:Ext)(call:Caller)(lf:Nat) :
    (f91_q0 n0=0→vbody Tryd.prog X call lf noFg Tryd.f91 (codeOf Tryd.f91) [AV.int IntKind.i32 n0] [] 0=some (bo true,[]))∧(f91_q0 n0=1→vbody Tryd.prog X call lf noFg Tryd.f91 (codeOf Tryd.f91) [AV.int IntKind.i32 n0] [] 0=some (bo false,[])):=by
  unfold f91_q0
  cases c0:decide (0 ≤ n0) with
  | true =>
    cases c1:decide (n0<55296) with
    | true =>
      exact ⟨fun _=>f91_ptt n0 X call lf c0 c1,fun h=>absurd (show (0:Nat)=1 from h) (by decide)⟩
    | false =>
      cases c2:decide (57343<n0) with
      | true =>
        cases c3:decide (n0 ≤ 1114111) with
        | true =>
          exact ⟨fun _=>f91_ptftt n0 X call lf c0 c1 c2 c3,fun h=>absurd (show (0:Nat)=1 from h) (by decide)⟩
        | false =>
          exact ⟨fun h=>absurd (show (1:Nat)=0 from h) (by decide),fun _=>f91_ptftf n0 X call lf c0 c1 c2 c3⟩
      | false =>
        exact ⟨fun h=>absurd (show (1:Nat)=0 from h) (by decide),fun _=>f91_ptff n0 X call lf c0 c1 c2⟩
  | false =>
    cases c1:decide (57343<n0) with
    | true =>
      cases c2:decide (n0 ≤ 1114111) with
      | true =>
        exact ⟨fun _=>f91_pftt n0 X call lf c0 c1 c2,fun h=>absurd (show (0:Nat)=1 from h) (by decide)⟩
      | false =>
        exact ⟨fun h=>absurd (show (1:Nat)=0 from h) (by decide),fun _=>f91_pftf n0 X call lf c0 c1 c2⟩
    | false =>
      exact ⟨fun h=>absurd (show (1:Nat)=0 from h) (by decide),fun _=>f91_pff n0 X call lf c0 c1⟩
def f92_F0 (a0:List Lett)(i0:Nat):St :=
  stOf 33 [4,5,6,7,14,15,16,17,18,19,20,21,22,23,24,25,26,27,28,29,30,31] [(0,lro a0.length 2 (List.flatMap lettC a0)),(2,AV.mnil),(3,AV.map 0),(8,lro a0.length 2 (List.flatMap lettC a0)),(9,i6 (↑a0.length:Int)),(10,AV.map 0),(11,lro a0.length 2 (List.flatMap lettC a0)),(12,i6 (↑a0.length:Int)),(13,i6 (↑i0:Int))] [Ob.mapo (mapR (idxR a0 i0))]
def f92_S0 (a0:List Lett):St :=
  stOf 33 [] [(0,lro a0.length 2 (List.flatMap lettC a0)),(2,AV.mnil),(3,AV.map 0),(8,lro a0.length 2 (List.flatMap lettC a0)),(9,i6 (↑a0.length:Int)),(10,AV.map 0),(11,lro a0.length 2 (List.flatMap lettC a0)),(12,i6 (↑a0.length:Int)),(13,i6 0)] [Ob.mapo []]
abbrev f92_D0:List Nat:=[31,30,29,28,27,26,25,7,6,24,23,18,22,21,20,19,4,5,17,16,15,14]
theorem f92_L0 (a0:List Lett)(X:Ext)(call:Caller)(lf n:Nat)(x:Ex) (S' : St)
 (hn:n<lf)
 (hs:∀ j,j<n→∃ Sx,vexec Tryd.prog X call lf 0 fg92 (loopN Tryd.f92 0) (f92_F0 a0 j)=some (Ex.normal,Sx)∧forget f92_D0 Sx=(f92_F0 a0 (j + 1)))
 (he:vexec Tryd.prog X call lf 0 fg92 (loopN Tryd.f92 0) (f92_F0 a0 n)=some (x,S'))
 (hx:x ≠ Ex.normal):vexec Tryd.prog X call lf 0 fg92 (Go.Code.loop (loopN Tryd.f92 0)) (f92_S0 a0)=some (x,S') :=
  loop_runK (by kernel_rfl) (fun j=>(f92_F0 a0 j)) n hn (by show forget f92_D0 (f92_S0 a0)=(f92_F0 a0 0); unfold f92_F0; show _=_; kernel_rfl) hs he hx
theorem f92_s0_tt (a0:List Lett)(X:Ext)(call:Caller)(lf i0:Nat)(a c:Int)(r16:List AV)(d:Int)(e:Bool)
 (h0:decide ((↑i0:Int)<(↑a0.length:Int))=true)
 (h1:keep [Ob.mapo (mapR (idxR a0 i0))] (indexAddrv Tryd.prog 52 [Ob.mapo (mapR (idxR a0 i0))] (lro a0.length 2 (List.flatMap lettC a0)) (i6 (↑i0:Int)))=some (AV.eaddr (AV.int IntKind.i32 a::AV.int IntKind.u32 c::r16),[Ob.mapo (mapR (idxR a0 i0))]))
 (h2:keep [Ob.mapo (mapR (idxR a0 i0))] (lookupv Tryd.prog 110 [Ob.mapo (mapR (idxR a0 i0))] (AV.map 0) (AV.int IntKind.i32 a) true)=some (AV.tup [i6 d,bo e],[Ob.mapo (mapR (idxR a0 i0))]))
 (h3:e=true)
 (e0:(↑(i0 + 1):Int)=w6 ((↑i0:Int) + 1))
 (e1:[Ob.mapo (mapR (idxR a0 (i0 + 1)))]=[Ob.mapo (mapR (idxR a0 i0))]):∃ Sx,vexec Tryd.prog X call lf 0 fg92 (loopN Tryd.f92 0) (f92_F0 a0 i0)=some (Ex.normal,Sx)∧forget f92_D0 Sx=(f92_F0 a0 (i0 + 1)) :=
  ⟨stOf 33 [14,15,16,17,18,19,20,21,22,23,24,27,28,29,30,31] [(0,lro a0.length 2 (List.flatMap lettC a0)),(2,AV.mnil),(3,AV.map 0),(4,i6 (↑i0:Int)),(5,AV.eaddr [AV.int IntKind.i32 a,AV.int IntKind.u32 c]),(6,i6 d),(7,bo true),(8,lro a0.length 2 (List.flatMap lettC a0)),(9,i6 (↑a0.length:Int)),(10,AV.map 0),(11,lro a0.length 2 (List.flatMap lettC a0)),(12,i6 (↑a0.length:Int)),(13,i6 (w6 ((↑i0:Int) + 1))),(25,bo true),(26,bo false)] [Ob.mapo (mapR (idxR a0 i0))],around_sound (ans:=[(1,Ans.b true),(5,Ans.v (AV.eaddr (AV.int IntKind.i32 a::AV.int IntKind.u32 c::r16))),(11,Ans.v (AV.tup [i6 d,bo e])),(14,Ans.b true)]) (by kernel_rfl) (ai h0 (ai h1 (ai h2 (ai h3 trivial)))),by unfold f92_F0; rw [e0,e1]; show _=_; kernel_rfl⟩
theorem f92_s0_tf (a0:List Lett)(X:Ext)(call:Caller)(lf i0:Nat)(a d:Int)(r16:List AV)(e:Int)(g:Bool)(sq26:List Ob)
 (h0:decide ((↑i0:Int)<(↑a0.length:Int))=true)
 (h1:keep [Ob.mapo (mapR (idxR a0 i0))] (indexAddrv Tryd.prog 52 [Ob.mapo (mapR (idxR a0 i0))] (lro a0.length 2 (List.flatMap lettC a0)) (i6 (↑i0:Int)))=some (AV.eaddr (AV.int IntKind.i32 a::AV.int IntKind.u32 d::r16),[Ob.mapo (mapR (idxR a0 i0))]))
 (h2:keep [Ob.mapo (mapR (idxR a0 i0))] (lookupv Tryd.prog 110 [Ob.mapo (mapR (idxR a0 i0))] (AV.map 0) (AV.int IntKind.i32 a) true)=some (AV.tup [i6 e,bo g],[Ob.mapo (mapR (idxR a0 i0))]))
 (h3:g=false)
 (h4:unit1 (mapUpdatev Tryd.prog 110 [Ob.mapo (mapR (idxR a0 i0))] 0 (AV.map 0) (AV.int IntKind.i32 a) (i6 (↑i0:Int)))=some (AV.undef,sq26))
 (e0:(↑(i0 + 1):Int)=w6 ((↑i0:Int) + 1))
 (e1:[Ob.mapo (mapR (idxR a0 (i0 + 1)))]=sq26):∃ Sx,vexec Tryd.prog X call lf 0 fg92 (loopN Tryd.f92 0) (f92_F0 a0 i0)=some (Ex.normal,Sx)∧forget f92_D0 Sx=(f92_F0 a0 (i0 + 1)) :=
  ⟨stOf 33 [14,15,16,17,18,19,20,21,22,23,24,27,28,29,30,31] [(0,lro a0.length 2 (List.flatMap lettC a0)),(2,AV.mnil),(3,AV.map 0),(4,i6 (↑i0:Int)),(5,AV.eaddr [AV.int IntKind.i32 a,AV.int IntKind.u32 d]),(6,i6 e),(7,bo false),(8,lro a0.length 2 (List.flatMap lettC a0)),(9,i6 (↑a0.length:Int)),(10,AV.map 0),(11,lro a0.length 2 (List.flatMap lettC a0)),(12,i6 (↑a0.length:Int)),(13,i6 (w6 ((↑i0:Int) + 1))),(25,bo false),(26,bo true)] sq26,around_sound (ans:=[(1,Ans.b true),(5,Ans.v (AV.eaddr (AV.int IntKind.i32 a::AV.int IntKind.u32 d::r16))),(11,Ans.v (AV.tup [i6 e,bo g])),(14,Ans.b false),(26,Ans.c AV.undef sq26)]) (by kernel_rfl) (ai h0 (ai h1 (ai h2 (ai h3 (ai h4 trivial))))),by unfold f92_F0; rw [e0,e1]; show _=_; kernel_rfl⟩
def f92_S1 (a0:List Lett)(i0:Nat):St :=
  stOf 33 [4,5,6,7,15,16,17,18,19,20,21,22,23,24,25,26,27,28,29,30,31] [(0,lro a0.length 2 (List.flatMap lettC a0)),(2,AV.mnil),(3,AV.map 0),(8,lro a0.length 2 (List.flatMap lettC a0)),(9,i6 (↑a0.length:Int)),(10,AV.map 0),(11,lro a0.length 2 (List.flatMap lettC a0)),(12,i6 (↑a0.length:Int)),(13,i6 (↑i0:Int)),(14,bo false)] [Ob.mapo (mapR (idxR a0 i0))]
theorem f92_r0_f (a0:List Lett)(X:Ext)(call:Caller)(lf i0:Nat)
 (h0:decide ((↑i0:Int)<(↑a0.length:Int))=false):vexec Tryd.prog X call lf 0 fg92 (loopN Tryd.f92 0) (f92_F0 a0 i0)=some (Ex.exit 0,(f92_S1 a0 i0)) :=
  around_sound (ans:=[(1,Ans.b false)]) (by kernel_rfl) (ai h0 trivial)
theorem f92_plf (a0:List Lett)(X:Ext)(call:Caller)(lf i0:Nat)
 (h0:vexec Tryd.prog X call lf 0 fg92 (Code.loop (loopN Tryd.f92 0)) (f92_S0 a0)=some (Ex.exit 0,(f92_S1 a0 i0))):vbody Tryd.prog X call lf fg92 Tryd.f92 (codeOf Tryd.f92) [lettsV a0] [] 0=some (AV.map 0,[Ob.mapo (mapR (idxR a0 i0))]) :=
  along_sound (ans:=[(11,Ans.l (Ex.exit 0) (f92_S1 a0 i0))]) (by kernel_rfl) (ai h0 trivial)
def f92_o0 (a0:List Lett)(i0:Nat)(a:Bool):Nat :=
  (match decide ((↑i0:Int)<(↑a0.length:Int)) with
  | true=>(match a with
    | true=>0
    | false=>0)
  | false=>1)
theorem f92_B0 (a0:List Lett)(X:Ext)(call:Caller)(lf i0:Nat)(a b:Int)(r16:List AV)(c:Int)(d:Bool)(sq26:List Ob)
 (g0:decide ((↑i0:Int)<(↑a0.length:Int))=true→keep [Ob.mapo (mapR (idxR a0 i0))] (indexAddrv Tryd.prog 52 [Ob.mapo (mapR (idxR a0 i0))] (lro a0.length 2 (List.flatMap lettC a0)) (i6 (↑i0:Int)))=some (AV.eaddr (AV.int IntKind.i32 a::AV.int IntKind.u32 b::r16),[Ob.mapo (mapR (idxR a0 i0))]))
 (g1:decide ((↑i0:Int)<(↑a0.length:Int))=true→keep [Ob.mapo (mapR (idxR a0 i0))] (lookupv Tryd.prog 110 [Ob.mapo (mapR (idxR a0 i0))] (AV.map 0) (AV.int IntKind.i32 a) true)=some (AV.tup [i6 c,bo d],[Ob.mapo (mapR (idxR a0 i0))]))
 (g2:decide ((↑i0:Int)<(↑a0.length:Int))=true→d=false→unit1 (mapUpdatev Tryd.prog 110 [Ob.mapo (mapR (idxR a0 i0))] 0 (AV.map 0) (AV.int IntKind.i32 a) (i6 (↑i0:Int)))=some (AV.undef,sq26))
 (e0:decide ((↑i0:Int)<(↑a0.length:Int))=true→(↑(i0 + 1):Int)=w6 ((↑i0:Int) + 1))
 (e1:decide ((↑i0:Int)<(↑a0.length:Int))=true→d=true→[Ob.mapo (mapR (idxR a0 (i0 + 1)))]=[Ob.mapo (mapR (idxR a0 i0))])
 (e2:decide ((↑i0:Int)<(↑a0.length:Int))=true→d=false→[Ob.mapo (mapR (idxR a0 (i0 + 1)))]=sq26) :
    (f92_o0 a0 i0 d=0→∃ Sx,vexec Tryd.prog X call lf 0 fg92 (loopN Tryd.f92 0) (f92_F0 a0 i0)=some (Ex.normal,Sx)∧forget f92_D0 Sx=(f92_F0 a0 (i0 + 1)))∧(f92_o0 a0 i0 d=1→vexec Tryd.prog X call lf 0 fg92 (loopN Tryd.f92 0) (f92_F0 a0 i0)=some (Ex.exit 0,(f92_S1 a0 i0))):=by
  refine (Bool.eq_false_or_eq_true (decide ((↑i0:Int)<(↑a0.length:Int)))).elim (fun c0 => ?_) (fun c0 => ?_)
  ·
    refine (Bool.eq_false_or_eq_true (d)).elim (fun c1 => ?_) (fun c1 => ?_)
    ·
      have ho:f92_o0 a0 i0 d=0:=by
        unfold f92_o0
        simp only [c0,c1]
      exact ⟨fun _=>f92_s0_tt a0 X call lf i0 a b r16 c d c0 (g0 c0) (g1 c0) c1 (e0 c0) (e1 c0 c1),fun h=>absurd (ho.symm.trans h) (by decide)⟩
    ·
      have ho:f92_o0 a0 i0 d=0:=by
        unfold f92_o0
        simp only [c0,c1]
      exact ⟨fun _=>f92_s0_tf a0 X call lf i0 a b r16 c d sq26 c0 (g0 c0) (g1 c0) c1 (g2 c0 c1) (e0 c0) (e2 c0 c1),fun h=>absurd (ho.symm.trans h) (by decide)⟩
  ·
    have ho:f92_o0 a0 i0 d=1:=by
      unfold f92_o0
      simp only [c0]
    exact ⟨fun h=>absurd (ho.symm.trans h) (by decide),fun _=>f92_r0_f a0 X call lf i0 c0⟩
theorem f92_X0 (a0:List Lett)(X:Ext)(call:Caller)(lf i0:Nat)(a b:Int)(r16:List AV)(c:Int)(d:Bool)(sq26:List Ob)
 (g0:decide ((↑i0:Int)<(↑a0.length:Int))=true→keep [Ob.mapo (mapR (idxR a0 i0))] (indexAddrv Tryd.prog 52 [Ob.mapo (mapR (idxR a0 i0))] (lro a0.length 2 (List.flatMap lettC a0)) (i6 (↑i0:Int)))=some (AV.eaddr (AV.int IntKind.i32 a::AV.int IntKind.u32 b::r16),[Ob.mapo (mapR (idxR a0 i0))]))
 (g1:decide ((↑i0:Int)<(↑a0.length:Int))=true→keep [Ob.mapo (mapR (idxR a0 i0))] (lookupv Tryd.prog 110 [Ob.mapo (mapR (idxR a0 i0))] (AV.map 0) (AV.int IntKind.i32 a) true)=some (AV.tup [i6 c,bo d],[Ob.mapo (mapR (idxR a0 i0))]))
 (g2:decide ((↑i0:Int)<(↑a0.length:Int))=true→d=false→unit1 (mapUpdatev Tryd.prog 110 [Ob.mapo (mapR (idxR a0 i0))] 0 (AV.map 0) (AV.int IntKind.i32 a) (i6 (↑i0:Int)))=some (AV.undef,sq26)) :
    (f92_o0 a0 i0 d=1→vexec Tryd.prog X call lf 0 fg92 (loopN Tryd.f92 0) (f92_F0 a0 i0)=some (Ex.exit 0,(f92_S1 a0 i0))):=by
  refine (Bool.eq_false_or_eq_true (decide ((↑i0:Int)<(↑a0.length:Int)))).elim (fun c0 => ?_) (fun c0 => ?_)
  ·
    refine (Bool.eq_false_or_eq_true (d)).elim (fun c1 => ?_) (fun c1 => ?_)
    ·
      have ho:f92_o0 a0 i0 d=0:=by
        unfold f92_o0
        simp only [c0,c1]
      exact fun h=>absurd (ho.symm.trans h) (by decide)
    ·
      have ho:f92_o0 a0 i0 d=0:=by
        unfold f92_o0
        simp only [c0,c1]
      exact fun h=>absurd (ho.symm.trans h) (by decide)
  ·
    have ho:f92_o0 a0 i0 d=1:=by
      unfold f92_o0
      simp only [c0]
    exact fun _=>f92_r0_f a0 X call lf i0 c0
theorem f92_M (a0:List Lett)(X:Ext)(call:Caller)(lf n:Nat)(a b:Nat→Int)(r16:Nat→List AV)(c:Nat→Int)(d:Nat→Bool)(sq26:Nat→List Ob)
 (hn:n<lf)
 (g0:∀ i0,i0 ≤ n→decide ((↑i0:Int)<(↑a0.length:Int))=true→keep [Ob.mapo (mapR (idxR a0 i0))] (indexAddrv Tryd.prog 52 [Ob.mapo (mapR (idxR a0 i0))] (lro a0.length 2 (List.flatMap lettC a0)) (i6 (↑i0:Int)))=some (AV.eaddr (AV.int IntKind.i32 (a i0)::AV.int IntKind.u32 (b i0)::(r16 i0)),[Ob.mapo (mapR (idxR a0 i0))]))
 (g1:∀ i0,i0 ≤ n→decide ((↑i0:Int)<(↑a0.length:Int))=true→keep [Ob.mapo (mapR (idxR a0 i0))] (lookupv Tryd.prog 110 [Ob.mapo (mapR (idxR a0 i0))] (AV.map 0) (AV.int IntKind.i32 (a i0)) true)=some (AV.tup [i6 (c i0),bo (d i0)],[Ob.mapo (mapR (idxR a0 i0))]))
 (g2:∀ i0,i0 ≤ n→decide ((↑i0:Int)<(↑a0.length:Int))=true→(d i0)=false→unit1 (mapUpdatev Tryd.prog 110 [Ob.mapo (mapR (idxR a0 i0))] 0 (AV.map 0) (AV.int IntKind.i32 (a i0)) (i6 (↑i0:Int)))=some (AV.undef,(sq26 i0)))
 (e0:∀ i0,i0<n→decide ((↑i0:Int)<(↑a0.length:Int))=true→(↑(i0 + 1):Int)=w6 ((↑i0:Int) + 1))
 (e1:∀ i0,i0<n→decide ((↑i0:Int)<(↑a0.length:Int))=true→(d i0)=true→[Ob.mapo (mapR (idxR a0 (i0 + 1)))]=[Ob.mapo (mapR (idxR a0 i0))])
 (e2:∀ i0,i0<n→decide ((↑i0:Int)<(↑a0.length:Int))=true→(d i0)=false→[Ob.mapo (mapR (idxR a0 (i0 + 1)))]=(sq26 i0))
 (hz:∀ j,j<n→f92_o0 a0 j (d j)=0) :
    (f92_o0 a0 n (d n)=1→vbody Tryd.prog X call lf fg92 Tryd.f92 (codeOf Tryd.f92) [lettsV a0] [] 0=some (AV.map 0,[Ob.mapo (mapR (idxR a0 n))])):=by
  have key:∀ j,j<n→_:=fun j hj=>(f92_B0 a0 X call lf j (a j) (b j) (r16 j) (c j) (d j) (sq26 j) (g0 j (Nat.le_of_lt hj)) (g1 j (Nat.le_of_lt hj)) (g2 j (Nat.le_of_lt hj)) (e0 j hj) (e1 j hj) (e2 j hj)).1 (hz j hj)
  have kn:=f92_X0 a0 X call lf n (a n) (b n) (r16 n) (c n) (d n) (sq26 n) (g0 n (Nat.le_refl n)) (g1 n (Nat.le_refl n)) (g2 n (Nat.le_refl n))
  exact fun hk=>f92_plf a0 X call lf n (f92_L0 a0 X call lf n _ _ hn key (kn hk) (by simp))
def fg70:Nat→List Nat
  | 1=>[5,6,7,8,9,10,11]
  | 5=>[17,18]
  | 6=>[19,20,21,22,23,24,25,26]
  | 8=>[28]
  | 5005=>[1]
  | _=>[]
theorem f70_pt (a0:List Lett)(X:Ext)(call:Caller)(lf:Nat)
 (h0:decide ((↑a0.length:Int)<1)=true):vbody Tryd.prog X call lf fg70 Tryd.f70 (codeOf Tryd.f70) [lettsV a0] [] 0=some (bo false,[]) :=
  along_sound (ans:=[(5,Ans.b true)]) (by kernel_rfl) (ai h0 trivial)
theorem f70_pft (a0:List Lett)(X:Ext)(call:Caller)(lf:Nat)
 (h0:decide ((↑a0.length:Int)<1)=false)
 (h1:decide ((↑a0.length:Int)>64)=true):vbody Tryd.prog X call lf fg70 Tryd.f70 (codeOf Tryd.f70) [lettsV a0] [] 0=some (bo false,[]) :=
  along_sound (ans:=[(5,Ans.b false),(12,Ans.b true)]) (by kernel_rfl) (ai h0 (ai h1 trivial))
def f70_F0 (a0:List Lett)(i0:Nat):St :=
  stOf 35 [2,4,5,6,7,8,9,10,11,16,17,18,19,20,21,22,23,24,25,26,27,28] [(0,lro a0.length 2 (List.flatMap lettC a0)),(12,bo false),(13,lro a0.length 2 (List.flatMap lettC a0)),(14,i6 (↑a0.length:Int)),(15,i6 (↑i0:Int))] []
def f70_S0 (a0:List Lett):St :=
  stOf 35 [5,6,7,8,9,10,11] [(0,lro a0.length 2 (List.flatMap lettC a0)),(2,bo false),(12,bo false),(13,lro a0.length 2 (List.flatMap lettC a0)),(14,i6 (↑a0.length:Int)),(15,i6 0)] []
abbrev f70_D0:List Nat:=[28,2,27,26,25,24,23,22,21,20,19,4,18,17,16]
theorem f70_L0 (a0:List Lett)(X:Ext)(call:Caller)(lf n:Nat)(x:Ex) (S' : St)
 (hn:n<lf)
 (hs:∀ j,j<n→∃ Sx,vexec Tryd.prog X call lf 0 fg70 (loopN Tryd.f70 0) (f70_F0 a0 j)=some (Ex.normal,Sx)∧forget f70_D0 Sx=(f70_F0 a0 (j + 1)))
 (he:vexec Tryd.prog X call lf 0 fg70 (loopN Tryd.f70 0) (f70_F0 a0 n)=some (x,S'))
 (hx:x ≠ Ex.normal):vexec Tryd.prog X call lf 0 fg70 (Go.Code.loop (loopN Tryd.f70 0)) (f70_S0 a0)=some (x,S') :=
  loop_runK (by kernel_rfl) (fun j=>(f70_F0 a0 j)) n hn (by show forget f70_D0 (f70_S0 a0)=(f70_F0 a0 0); unfold f70_F0; show _=_; kernel_rfl) hs he hx
def f70_S1 (a0:List Lett)(i0:Nat)(a b:Int):St :=
  stOf 35 [5,6,7,8,9,10,11,17,18,19,20,21,22,23,24,25,26,28] [(0,lro a0.length 2 (List.flatMap lettC a0)),(2,bo false),(4,AV.eaddr [AV.int IntKind.i32 a,AV.int IntKind.u32 b]),(12,bo false),(13,lro a0.length 2 (List.flatMap lettC a0)),(14,i6 (↑a0.length:Int)),(15,i6 (↑i0:Int)),(16,bo true),(27,bo true)] []
theorem f70_r0_tt (a0:List Lett)(X:Ext)(call:Caller)(lf i0:Nat)(a c:Int)(r17:List AV)
 (h0:decide ((↑i0:Int)<(↑a0.length:Int))=true)
 (h1:keep [] (indexAddrv Tryd.prog 52 [] (lro a0.length 2 (List.flatMap lettC a0)) (i6 (↑i0:Int)))=some (AV.eaddr (AV.int IntKind.i32 a::AV.int IntKind.u32 c::r17),[]))
 (h2:decide (a ≤ 32)=true):vexec Tryd.prog X call lf 0 fg70 (loopN Tryd.f70 0) (f70_F0 a0 i0)=some (Ex.ret,(f70_S1 a0 i0 a c)) :=
  around_sound (ans:=[(1,Ans.b true),(4,Ans.v (AV.eaddr (AV.int IntKind.i32 a::AV.int IntKind.u32 c::r17))),(9,Ans.b true)]) (by kernel_rfl) (ai h0 (ai h1 (ai h2 trivial)))
theorem f70_pffltt (a0:List Lett)(X:Ext)(call:Caller)(lf i0:Nat)(a c:Int)
 (h0:decide ((↑a0.length:Int)<1)=false)
 (h1:decide ((↑a0.length:Int)>64)=false)
 (h2:vexec Tryd.prog X call lf 0 fg70 (Code.loop (loopN Tryd.f70 0)) (f70_S0 a0)=some (Ex.ret,(f70_S1 a0 i0 a c))):vbody Tryd.prog X call lf fg70 Tryd.f70 (codeOf Tryd.f70) [lettsV a0] [] 0=some (bo false,[]) :=
  along_sound (ans:=[(5,Ans.b false),(12,Ans.b false),(19,Ans.l Ex.ret (f70_S1 a0 i0 a c))]) (by kernel_rfl) (ai h0 (ai h1 (ai h2 trivial)))
theorem f70_s0_tft (a0:List Lett)(X:Ext)(call:Caller)(lf i0:Nat)(a c:Int)(r17:List AV)
 (h0:decide ((↑i0:Int)<(↑a0.length:Int))=true)
 (h1:keep [] (indexAddrv Tryd.prog 52 [] (lro a0.length 2 (List.flatMap lettC a0)) (i6 (↑i0:Int)))=some (AV.eaddr (AV.int IntKind.i32 a::AV.int IntKind.u32 c::r17),[]))
 (h2:decide (a ≤ 32)=false)
 (h3:callv X call false 91 [AV.int IntKind.i32 a] [] 0=some (bo true,[]))
 (e0:(↑(i0 + 1):Int)=w6 ((↑i0:Int) + 1)):∃ Sx,vexec Tryd.prog X call lf 0 fg70 (loopN Tryd.f70 0) (f70_F0 a0 i0)=some (Ex.normal,Sx)∧forget f70_D0 Sx=(f70_F0 a0 (i0 + 1)) :=
  ⟨stOf 35 [2,5,6,7,8,9,10,11,17,18,19,20,21,22,23,24,25,26,28] [(0,lro a0.length 2 (List.flatMap lettC a0)),(4,AV.eaddr [AV.int IntKind.i32 a,AV.int IntKind.u32 c]),(12,bo false),(13,lro a0.length 2 (List.flatMap lettC a0)),(14,i6 (↑a0.length:Int)),(15,i6 (w6 ((↑i0:Int) + 1))),(16,bo true),(27,bo false)] [],around_sound (ans:=[(1,Ans.b true),(4,Ans.v (AV.eaddr (AV.int IntKind.i32 a::AV.int IntKind.u32 c::r17))),(9,Ans.b false),(16,Ans.v (bo true))]) (by kernel_rfl) (ai h0 (ai h1 (ai h2 (ai h3 trivial)))),by unfold f70_F0; rw [e0]; show _=_; kernel_rfl⟩
theorem f70_r0_tff (a0:List Lett)(X:Ext)(call:Caller)(lf i0:Nat)(a c:Int)(r17:List AV)
 (h0:decide ((↑i0:Int)<(↑a0.length:Int))=true)
 (h1:keep [] (indexAddrv Tryd.prog 52 [] (lro a0.length 2 (List.flatMap lettC a0)) (i6 (↑i0:Int)))=some (AV.eaddr (AV.int IntKind.i32 a::AV.int IntKind.u32 c::r17),[]))
 (h2:decide (a ≤ 32)=false)
 (h3:callv X call false 91 [AV.int IntKind.i32 a] [] 0=some (bo false,[])):vexec Tryd.prog X call lf 0 fg70 (loopN Tryd.f70 0) (f70_F0 a0 i0)=some (Ex.ret,(f70_S1 a0 i0 a c)) :=
  around_sound (ans:=[(1,Ans.b true),(4,Ans.v (AV.eaddr (AV.int IntKind.i32 a::AV.int IntKind.u32 c::r17))),(9,Ans.b false),(16,Ans.v (bo false))]) (by kernel_rfl) (ai h0 (ai h1 (ai h2 (ai h3 trivial))))
theorem f70_pffltff (a0:List Lett)(X:Ext)(call:Caller)(lf i0:Nat)(a c:Int)
 (h0:decide ((↑a0.length:Int)<1)=false)
 (h1:decide ((↑a0.length:Int)>64)=false)
 (h2:vexec Tryd.prog X call lf 0 fg70 (Code.loop (loopN Tryd.f70 0)) (f70_S0 a0)=some (Ex.ret,(f70_S1 a0 i0 a c))):vbody Tryd.prog X call lf fg70 Tryd.f70 (codeOf Tryd.f70) [lettsV a0] [] 0=some (bo false,[]) :=
  along_sound (ans:=[(5,Ans.b false),(12,Ans.b false),(19,Ans.l Ex.ret (f70_S1 a0 i0 a c))]) (by kernel_rfl) (ai h0 (ai h1 (ai h2 trivial)))
def f70_S2 (a0:List Lett)(i0:Nat):St :=
  stOf 35 [2,4,5,6,7,8,9,10,11,17,18,19,20,21,22,23,24,25,26,27,28] [(0,lro a0.length 2 (List.flatMap lettC a0)),(12,bo false),(13,lro a0.length 2 (List.flatMap lettC a0)),(14,i6 (↑a0.length:Int)),(15,i6 (↑i0:Int)),(16,bo false)] []
theorem f70_r0_f (a0:List Lett)(X:Ext)(call:Caller)(lf i0:Nat)
 (h0:decide ((↑i0:Int)<(↑a0.length:Int))=false):vexec Tryd.prog X call lf 0 fg70 (loopN Tryd.f70 0) (f70_F0 a0 i0)=some (Ex.exit 0,(f70_S2 a0 i0)) :=
  around_sound (ans:=[(1,Ans.b false)]) (by kernel_rfl) (ai h0 trivial)
theorem f70_pfflft (a0:List Lett)(X:Ext)(call:Caller)(lf i0:Nat)
 (h0:decide ((↑a0.length:Int)<1)=false)
 (h1:decide ((↑a0.length:Int)>64)=false)
 (h2:vexec Tryd.prog X call lf 0 fg70 (Code.loop (loopN Tryd.f70 0)) (f70_S0 a0)=some (Ex.exit 0,(f70_S2 a0 i0)))
 (h3:callv X call false 92 [lro a0.length 2 (List.flatMap lettC a0)] [] 0=some (AV.map 0,[Ob.mapo (mapR (idxR a0 a0.length))]))
 (h4:((↑(List.length (mapR (idxR a0 a0.length))):Int) == (↑a0.length:Int))=true):vbody Tryd.prog X call lf fg70 Tryd.f70 (codeOf Tryd.f70) [lettsV a0] [] 0=some (bo true,[Ob.mapo (mapR (idxR a0 a0.length))]) :=
  along_sound (ans:=[(5,Ans.b false),(12,Ans.b false),(19,Ans.l (Ex.exit 0) (f70_S2 a0 i0)),(22,Ans.c (AV.map 0) [Ob.mapo (mapR (idxR a0 a0.length))]),(26,Ans.b true)]) (by kernel_rfl) (ai h0 (ai h1 (ai h2 (ai h3 (ai h4 trivial)))))
theorem f70_pfflff (a0:List Lett)(X:Ext)(call:Caller)(lf i0:Nat)
 (h0:decide ((↑a0.length:Int)<1)=false)
 (h1:decide ((↑a0.length:Int)>64)=false)
 (h2:vexec Tryd.prog X call lf 0 fg70 (Code.loop (loopN Tryd.f70 0)) (f70_S0 a0)=some (Ex.exit 0,(f70_S2 a0 i0)))
 (h3:callv X call false 92 [lro a0.length 2 (List.flatMap lettC a0)] [] 0=some (AV.map 0,[Ob.mapo (mapR (idxR a0 a0.length))]))
 (h4:((↑(List.length (mapR (idxR a0 a0.length))):Int) == (↑a0.length:Int))=false):vbody Tryd.prog X call lf fg70 Tryd.f70 (codeOf Tryd.f70) [lettsV a0] [] 0=some (bo false,[Ob.mapo (mapR (idxR a0 a0.length))]) :=
  along_sound (ans:=[(5,Ans.b false),(12,Ans.b false),(19,Ans.l (Ex.exit 0) (f70_S2 a0 i0)),(22,Ans.c (AV.map 0) [Ob.mapo (mapR (idxR a0 a0.length))]),(26,Ans.b false)]) (by kernel_rfl) (ai h0 (ai h1 (ai h2 (ai h3 (ai h4 trivial)))))
def f70_o0 (a0:List Lett)(i0:Nat)(a:Int)(b0:Bool):Nat :=
  (match decide ((↑i0:Int)<(↑a0.length:Int)) with
  | true=>(match decide (a ≤ 32) with
    | true=>1
    | false=>(match b0 with
      | true=>0
      | false=>1))
  | false=>2)
theorem f70_B0 (a0:List Lett)(X:Ext)(call:Caller)(lf i0:Nat)(a b:Int)(r17:List AV)(b0:Bool)
 (g0:decide ((↑i0:Int)<(↑a0.length:Int))=true→keep [] (indexAddrv Tryd.prog 52 [] (lro a0.length 2 (List.flatMap lettC a0)) (i6 (↑i0:Int)))=some (AV.eaddr (AV.int IntKind.i32 a::AV.int IntKind.u32 b::r17),[]))
 (g1:decide ((↑i0:Int)<(↑a0.length:Int))=true→decide (a ≤ 32)=false→callv X call false 91 [AV.int IntKind.i32 a] [] 0=some (bo b0,[]))
 (e0:decide ((↑i0:Int)<(↑a0.length:Int))=true→(↑(i0 + 1):Int)=w6 ((↑i0:Int) + 1)) :
    (f70_o0 a0 i0 a b0=0→∃ Sx,vexec Tryd.prog X call lf 0 fg70 (loopN Tryd.f70 0) (f70_F0 a0 i0)=some (Ex.normal,Sx)∧forget f70_D0 Sx=(f70_F0 a0 (i0 + 1)))∧(f70_o0 a0 i0 a b0=1→vexec Tryd.prog X call lf 0 fg70 (loopN Tryd.f70 0) (f70_F0 a0 i0)=some (Ex.ret,(f70_S1 a0 i0 a b)))∧(f70_o0 a0 i0 a b0=2→vexec Tryd.prog X call lf 0 fg70 (loopN Tryd.f70 0) (f70_F0 a0 i0)=some (Ex.exit 0,(f70_S2 a0 i0))):=by
  unfold f70_o0
  cases c0:decide ((↑i0:Int)<(↑a0.length:Int)) with
  | true =>
    cases c1:decide (a ≤ 32) with
    | true =>
      exact ⟨fun h=>absurd (show (1:Nat)=0 from h) (by decide),fun _=>f70_r0_tt a0 X call lf i0 a b r17 c0 (g0 c0) c1,fun h=>absurd (show (1:Nat)=2 from h) (by decide)⟩
    | false =>
      cases c2:b0 with
      | true =>
        exact ⟨fun _=>f70_s0_tft a0 X call lf i0 a b r17 c0 (g0 c0) c1 (by have:=(g1 c0 c1); rw [c2] at this; exact this) (e0 c0),fun h=>absurd (show (0:Nat)=1 from h) (by decide),fun h=>absurd (show (0:Nat)=2 from h) (by decide)⟩
      | false =>
        exact ⟨fun h=>absurd (show (1:Nat)=0 from h) (by decide),fun _=>f70_r0_tff a0 X call lf i0 a b r17 c0 (g0 c0) c1 (by have:=(g1 c0 c1); rw [c2] at this; exact this),fun h=>absurd (show (1:Nat)=2 from h) (by decide)⟩
  | false =>
    exact ⟨fun h=>absurd (show (2:Nat)=0 from h) (by decide),fun h=>absurd (show (2:Nat)=1 from h) (by decide),fun _=>f70_r0_f a0 X call lf i0 c0⟩
theorem f70_X0 (a0:List Lett)(X:Ext)(call:Caller)(lf i0:Nat)(a b:Int)(r17:List AV)(b0:Bool)
 (g0:decide ((↑i0:Int)<(↑a0.length:Int))=true→keep [] (indexAddrv Tryd.prog 52 [] (lro a0.length 2 (List.flatMap lettC a0)) (i6 (↑i0:Int)))=some (AV.eaddr (AV.int IntKind.i32 a::AV.int IntKind.u32 b::r17),[]))
 (g1:decide ((↑i0:Int)<(↑a0.length:Int))=true→decide (a ≤ 32)=false→callv X call false 91 [AV.int IntKind.i32 a] [] 0=some (bo b0,[])) :
    (f70_o0 a0 i0 a b0=1→vexec Tryd.prog X call lf 0 fg70 (loopN Tryd.f70 0) (f70_F0 a0 i0)=some (Ex.ret,(f70_S1 a0 i0 a b)))∧(f70_o0 a0 i0 a b0=2→vexec Tryd.prog X call lf 0 fg70 (loopN Tryd.f70 0) (f70_F0 a0 i0)=some (Ex.exit 0,(f70_S2 a0 i0))):=by
  unfold f70_o0
  cases c0:decide ((↑i0:Int)<(↑a0.length:Int)) with
  | true =>
    cases c1:decide (a ≤ 32) with
    | true =>
      exact ⟨fun _=>f70_r0_tt a0 X call lf i0 a b r17 c0 (g0 c0) c1,fun h=>absurd (show (1:Nat)=2 from h) (by decide)⟩
    | false =>
      cases c2:b0 with
      | true =>
        exact ⟨fun h=>absurd (show (0:Nat)=1 from h) (by decide),fun h=>absurd (show (0:Nat)=2 from h) (by decide)⟩
      | false =>
        exact ⟨fun _=>f70_r0_tff a0 X call lf i0 a b r17 c0 (g0 c0) c1 (by have:=(g1 c0 c1); rw [c2] at this; exact this),fun h=>absurd (show (1:Nat)=2 from h) (by decide)⟩
  | false =>
    exact ⟨fun h=>absurd (show (2:Nat)=1 from h) (by decide),fun _=>f70_r0_f a0 X call lf i0 c0⟩
theorem f70_M (a0:List Lett)(X:Ext)(call:Caller)(lf n:Nat)(a b:Nat→Int)(r17:Nat→List AV)(b0:Nat→Bool)
 (hn:n<lf)
 (g0:∀ i0,i0 ≤ n→decide ((↑i0:Int)<(↑a0.length:Int))=true→keep [] (indexAddrv Tryd.prog 52 [] (lro a0.length 2 (List.flatMap lettC a0)) (i6 (↑i0:Int)))=some (AV.eaddr (AV.int IntKind.i32 (a i0)::AV.int IntKind.u32 (b i0)::(r17 i0)),[]))
 (g1:∀ i0,i0 ≤ n→decide ((↑i0:Int)<(↑a0.length:Int))=true→decide ((a i0) ≤ 32)=false→callv X call false 91 [AV.int IntKind.i32 (a i0)] [] 0=some (bo (b0 i0),[]))
 (e0:∀ i0,i0<n→decide ((↑i0:Int)<(↑a0.length:Int))=true→(↑(i0 + 1):Int)=w6 ((↑i0:Int) + 1))
 (hz:∀ j,j<n→f70_o0 a0 j (a j) (b0 j)=0) :
    (f70_o0 a0 n (a n) (b0 n)=1→decide ((↑a0.length:Int)<1)=false→decide ((↑a0.length:Int)>64)=false→vbody Tryd.prog X call lf fg70 Tryd.f70 (codeOf Tryd.f70) [lettsV a0] [] 0=some (bo false,[]))∧(f70_o0 a0 n (a n) (b0 n)=1→decide ((↑a0.length:Int)<1)=false→decide ((↑a0.length:Int)>64)=false→vbody Tryd.prog X call lf fg70 Tryd.f70 (codeOf Tryd.f70) [lettsV a0] [] 0=some (bo false,[]))∧(f70_o0 a0 n (a n) (b0 n)=2→decide ((↑a0.length:Int)<1)=false→decide ((↑a0.length:Int)>64)=false→callv X call false 92 [lro a0.length 2 (List.flatMap lettC a0)] [] 0=some (AV.map 0,[Ob.mapo (mapR (idxR a0 a0.length))])→((↑(List.length (mapR (idxR a0 a0.length))):Int) == (↑a0.length:Int))=true→vbody Tryd.prog X call lf fg70 Tryd.f70 (codeOf Tryd.f70) [lettsV a0] [] 0=some (bo true,[Ob.mapo (mapR (idxR a0 a0.length))]))∧(f70_o0 a0 n (a n) (b0 n)=2→decide ((↑a0.length:Int)<1)=false→decide ((↑a0.length:Int)>64)=false→callv X call false 92 [lro a0.length 2 (List.flatMap lettC a0)] [] 0=some (AV.map 0,[Ob.mapo (mapR (idxR a0 a0.length))])→((↑(List.length (mapR (idxR a0 a0.length))):Int) == (↑a0.length:Int))=false→vbody Tryd.prog X call lf fg70 Tryd.f70 (codeOf Tryd.f70) [lettsV a0] [] 0=some (bo false,[Ob.mapo (mapR (idxR a0 a0.length))])):=by
  have key:∀ j,j<n→_:=fun j hj=>(f70_B0 a0 X call lf j (a j) (b j) (r17 j) (b0 j) (g0 j (Nat.le_of_lt hj)) (g1 j (Nat.le_of_lt hj)) (e0 j hj)).1 (hz j hj)
  have kn:=f70_X0 a0 X call lf n (a n) (b n) (r17 n) (b0 n) (g0 n (Nat.le_refl n)) (g1 n (Nat.le_refl n))
  exact ⟨fun hk q0 q1=>f70_pffltt a0 X call lf n (a n) (b n) q0 q1 (f70_L0 a0 X call lf n _ _ hn key (kn.1 hk) (by simp)),
    fun hk q0 q1=>f70_pffltff a0 X call lf n (a n) (b n) q0 q1 (f70_L0 a0 X call lf n _ _ hn key (kn.1 hk) (by simp)),
    fun hk q0 q1 q2 q3=>f70_pfflft a0 X call lf n q0 q1 (f70_L0 a0 X call lf n _ _ hn key (kn.2 hk) (by simp)) q2 q3,
    fun hk q0 q1 q2 q3=>f70_pfflff a0 X call lf n q0 q1 (f70_L0 a0 X call lf n _ _ hn key (kn.2 hk) (by simp)) q2 q3⟩
def fg38:Nat→List Nat
  | 1=>[8,9,10,11,12,13,14]
  | 6=>[21,22]
  | 7=>[23,24,25,26,27,28,29,30,31,32,33,34,35,36,37,38,39,40,41,42,43,44,45,46,47,48,49,50,51,52,53,54,55,56,57,58,59,60,61]
  | 9=>[63,64,65]
  | 10=>[66]
  | 5006=>[1]
  | _=>[]
theorem f38_ptt (a0:List Lett)(x0:List Lexm)(X:Ext)(call:Caller)(lf:Nat)
 (h0:callv X call false 70 [lro a0.length 2 (List.flatMap lettC a0)] [] 0=some (bo true,[]))
 (h1:decide ((↑x0.length:Int)>256)=true):vbody Tryd.prog X call lf fg38 Tryd.f38 (codeOf Tryd.f38) [lettsV a0,lexsV x0] [] 0=some (bo false,[]) :=
  along_sound (ans:=[(4,Ans.v (bo true)),(12,Ans.b true)]) (by kernel_rfl) (ai h0 (ai h1 trivial))
def f38_F0 (a0:List Lett)(x0:List Lexm)(i0:Nat):St :=
  stOf 67 [4,7,8,9,10,11,12,13,14,20,21,22,23,24,25,26,27,28,29,30,31,32,33,34,35,36,37,38,39,40,41,42,43,44,45,46,47,48,49,50,51,52,53,54,55,56,57,58,59,60,61,62,63,64,65,66] [(0,lro a0.length 2 (List.flatMap lettC a0)),(1,lro x0.length 5 (List.flatMap lexC x0)),(5,AV.map 0),(15,bo false),(16,AV.map 0),(17,lro x0.length 5 (List.flatMap lexC x0)),(18,i6 (↑x0.length:Int)),(19,i6 (↑i0:Int))] [Ob.mapo (idsR x0 i0)]
def f38_S0 (a0:List Lett)(x0:List Lexm):St :=
  stOf 67 [8,9,10,11,12,13,14] [(0,lro a0.length 2 (List.flatMap lettC a0)),(1,lro x0.length 5 (List.flatMap lexC x0)),(4,bo false),(5,AV.map 0),(15,bo false),(16,AV.map 0),(17,lro x0.length 5 (List.flatMap lexC x0)),(18,i6 (↑x0.length:Int)),(19,i6 0)] [Ob.mapo []]
abbrev f38_D0:List Nat:=[66,65,64,63,4,62,61,60,59,58,57,56,55,54,53,52,51,50,49,48,47,46,45,44,43,42,41,40,39,38,37,36,35,34,33,32,31,30,29,28,27,26,25,24,23,7,22,21,20]
theorem f38_L0 (a0:List Lett)(x0:List Lexm)(X:Ext)(call:Caller)(lf n:Nat)(x:Ex) (S' : St)
 (hn:n<lf)
 (hs:∀ j,j<n→∃ Sx,vexec Tryd.prog X call lf 0 fg38 (loopN Tryd.f38 0) (f38_F0 a0 x0 j)=some (Ex.normal,Sx)∧forget f38_D0 Sx=(f38_F0 a0 x0 (j + 1)))
 (he:vexec Tryd.prog X call lf 0 fg38 (loopN Tryd.f38 0) (f38_F0 a0 x0 n)=some (x,S'))
 (hx:x ≠ Ex.normal):vexec Tryd.prog X call lf 0 fg38 (Go.Code.loop (loopN Tryd.f38 0)) (f38_S0 a0 x0)=some (x,S') :=
  loop_runK (by kernel_rfl) (fun j=>(f38_F0 a0 x0 j)) n hn (by show forget f38_D0 (f38_S0 a0 x0)=(f38_F0 a0 x0 0); unfold f38_F0; show _=_; kernel_rfl) hs he hx
def f38_S1 (a0:List Lett)(x0:List Lexm)(i0:Nat)(a b c d:ByteArray)(e:Nat)(g:List AV):St :=
  stOf 67 [8,9,10,11,12,13,14,21,22,23,24,25,26,27,28,29,30,31,32,33,34,35,36,37,38,39,40,41,42,43,44,45,46,47,48,49,50,51,52,53,54,55,56,57,58,59,60,61,63,64,65,66] [(0,lro a0.length 2 (List.flatMap lettC a0)),(1,lro x0.length 5 (List.flatMap lexC x0)),(4,bo false),(5,AV.map 0),(7,AV.eaddr [st a,st b,st c,st d,lro e 2 g]),(15,bo false),(16,AV.map 0),(17,lro x0.length 5 (List.flatMap lexC x0)),(18,i6 (↑x0.length:Int)),(19,i6 (↑i0:Int)),(20,bo true),(62,bo true)] [Ob.mapo (idsR x0 i0)]
theorem f38_r0_tt (a0:List Lett)(x0:List Lexm)(X:Ext)(call:Caller)(lf i0:Nat)(a c d e:ByteArray)(g:Nat)(h r21:List AV)
 (h0:decide ((↑i0:Int)<(↑x0.length:Int))=true)
 (h1:keep [Ob.mapo (idsR x0 i0)] (indexAddrv Tryd.prog 22 [Ob.mapo (idsR x0 i0)] (lro x0.length 5 (List.flatMap lexC x0)) (i6 (↑i0:Int)))=some (AV.eaddr (st a::st c::st d::st e::lro g 2 h::r21),[Ob.mapo (idsR x0 i0)]))
 (h2:keep [Ob.mapo (idsR x0 i0)] (lookupv Tryd.prog 58 [Ob.mapo (idsR x0 i0)] (AV.map 0) (st a) false)=some (bo true,[Ob.mapo (idsR x0 i0)])):vexec Tryd.prog X call lf 0 fg38 (loopN Tryd.f38 0) (f38_F0 a0 x0 i0)=some (Ex.ret,(f38_S1 a0 x0 i0 a c d e g h)) :=
  around_sound (ans:=[(1,Ans.b true),(4,Ans.v (AV.eaddr (st a::st c::st d::st e::lro g 2 h::r21))),(10,Ans.v (bo true))]) (by kernel_rfl) (ai h0 (ai h1 (ai h2 trivial)))
theorem f38_ptfltt (a0:List Lett)(x0:List Lexm)(X:Ext)(call:Caller)(lf i0:Nat)(a c d e:ByteArray)(g:Nat)(h:List AV)
 (h0:callv X call false 70 [lro a0.length 2 (List.flatMap lettC a0)] [] 0=some (bo true,[]))
 (h1:decide ((↑x0.length:Int)>256)=false)
 (h2:vexec Tryd.prog X call lf 0 fg38 (Code.loop (loopN Tryd.f38 0)) (f38_S0 a0 x0)=some (Ex.ret,(f38_S1 a0 x0 i0 a c d e g h))):vbody Tryd.prog X call lf fg38 Tryd.f38 (codeOf Tryd.f38) [lettsV a0,lexsV x0] [] 0=some (bo false,[Ob.mapo (idsR x0 i0)]) :=
  along_sound (ans:=[(4,Ans.v (bo true)),(12,Ans.b false),(22,Ans.l Ex.ret (f38_S1 a0 x0 i0 a c d e g h))]) (by kernel_rfl) (ai h0 (ai h1 (ai h2 trivial)))
theorem f38_s0_tftttttt (a0:List Lett)(x0:List Lexm)(X:Ext)(call:Caller)(lf i0:Nat)(a d e g:ByteArray)(h:Nat)(j r21:List AV)(sq78:List Ob)
 (h0:decide ((↑i0:Int)<(↑x0.length:Int))=true)
 (h1:keep [Ob.mapo (idsR x0 i0)] (indexAddrv Tryd.prog 22 [Ob.mapo (idsR x0 i0)] (lro x0.length 5 (List.flatMap lexC x0)) (i6 (↑i0:Int)))=some (AV.eaddr (st a::st d::st e::st g::lro h 2 j::r21),[Ob.mapo (idsR x0 i0)]))
 (h2:keep [Ob.mapo (idsR x0 i0)] (lookupv Tryd.prog 58 [Ob.mapo (idsR x0 i0)] (AV.map 0) (st a) false)=some (bo false,[Ob.mapo (idsR x0 i0)]))
 (h3:callv X call false 43 [st a] [Ob.mapo (idsR x0 i0)] 0=some (bo true,[Ob.mapo (idsR x0 i0)]))
 (h4:callv X call false 43 [st d] [Ob.mapo (idsR x0 i0)] 0=some (bo true,[Ob.mapo (idsR x0 i0)]))
 (h5:(!ByteArray.toList g == ByteArray.toList (ByteArray.mk #[]))=true)
 (h6:callv X call false 43 [st g] [Ob.mapo (idsR x0 i0)] 0=some (bo true,[Ob.mapo (idsR x0 i0)]))
 (h7:callv X call false 71 [lro a0.length 2 (List.flatMap lettC a0),st e] [Ob.mapo (idsR x0 i0)] 0=some (bo true,[Ob.mapo (idsR x0 i0)]))
 (h8:callv X call false 45 [lro h 2 j] [Ob.mapo (idsR x0 i0)] 0=some (bo true,[Ob.mapo (idsR x0 i0)]))
 (h9:unit1 (mapUpdatev Tryd.prog 58 [Ob.mapo (idsR x0 i0)] 0 (AV.map 0) (st a) (bo true))=some (AV.undef,sq78))
 (e0:(↑(i0 + 1):Int)=w6 ((↑i0:Int) + 1))
 (e1:[Ob.mapo (idsR x0 (i0 + 1))]=sq78):∃ Sx,vexec Tryd.prog X call lf 0 fg38 (loopN Tryd.f38 0) (f38_F0 a0 x0 i0)=some (Ex.normal,Sx)∧forget f38_D0 Sx=(f38_F0 a0 x0 (i0 + 1)) :=
  ⟨stOf 67 [4,8,9,10,11,12,13,14,21,22,23,24,25,26,27,28,29,30,31,32,33,34,35,36,37,38,39,40,41,42,43,44,45,46,47,48,49,50,51,52,53,54,55,56,57,58,59,60,61,63,64,65,66] [(0,lro a0.length 2 (List.flatMap lettC a0)),(1,lro x0.length 5 (List.flatMap lexC x0)),(5,AV.map 0),(7,AV.eaddr [st a,st d,st e,st g,lro h 2 j]),(15,bo false),(16,AV.map 0),(17,lro x0.length 5 (List.flatMap lexC x0)),(18,i6 (↑x0.length:Int)),(19,i6 (w6 ((↑i0:Int) + 1))),(20,bo true),(62,bo false)] sq78,around_sound (ans:=[(1,Ans.b true),(4,Ans.v (AV.eaddr (st a::st d::st e::st g::lro h 2 j::r21))),(10,Ans.v (bo false)),(17,Ans.v (bo true)),(27,Ans.v (bo true)),(37,Ans.b true),(45,Ans.v (bo true)),(59,Ans.v (bo true)),(69,Ans.v (bo true)),(78,Ans.c AV.undef sq78)]) (by kernel_rfl) (ai h0 (ai h1 (ai h2 (ai h3 (ai h4 (ai h5 (ai h6 (ai h7 (ai h8 (ai h9 trivial)))))))))),by unfold f38_F0; rw [e0,e1]; show _=_; kernel_rfl⟩
theorem f38_r0_tftttttf (a0:List Lett)(x0:List Lexm)(X:Ext)(call:Caller)(lf i0:Nat)(a c d e:ByteArray)(g:Nat)(h r21:List AV)
 (h0:decide ((↑i0:Int)<(↑x0.length:Int))=true)
 (h1:keep [Ob.mapo (idsR x0 i0)] (indexAddrv Tryd.prog 22 [Ob.mapo (idsR x0 i0)] (lro x0.length 5 (List.flatMap lexC x0)) (i6 (↑i0:Int)))=some (AV.eaddr (st a::st c::st d::st e::lro g 2 h::r21),[Ob.mapo (idsR x0 i0)]))
 (h2:keep [Ob.mapo (idsR x0 i0)] (lookupv Tryd.prog 58 [Ob.mapo (idsR x0 i0)] (AV.map 0) (st a) false)=some (bo false,[Ob.mapo (idsR x0 i0)]))
 (h3:callv X call false 43 [st a] [Ob.mapo (idsR x0 i0)] 0=some (bo true,[Ob.mapo (idsR x0 i0)]))
 (h4:callv X call false 43 [st c] [Ob.mapo (idsR x0 i0)] 0=some (bo true,[Ob.mapo (idsR x0 i0)]))
 (h5:(!ByteArray.toList e == ByteArray.toList (ByteArray.mk #[]))=true)
 (h6:callv X call false 43 [st e] [Ob.mapo (idsR x0 i0)] 0=some (bo true,[Ob.mapo (idsR x0 i0)]))
 (h7:callv X call false 71 [lro a0.length 2 (List.flatMap lettC a0),st d] [Ob.mapo (idsR x0 i0)] 0=some (bo true,[Ob.mapo (idsR x0 i0)]))
 (h8:callv X call false 45 [lro g 2 h] [Ob.mapo (idsR x0 i0)] 0=some (bo false,[Ob.mapo (idsR x0 i0)])):vexec Tryd.prog X call lf 0 fg38 (loopN Tryd.f38 0) (f38_F0 a0 x0 i0)=some (Ex.ret,(f38_S1 a0 x0 i0 a c d e g h)) :=
  around_sound (ans:=[(1,Ans.b true),(4,Ans.v (AV.eaddr (st a::st c::st d::st e::lro g 2 h::r21))),(10,Ans.v (bo false)),(17,Ans.v (bo true)),(27,Ans.v (bo true)),(37,Ans.b true),(45,Ans.v (bo true)),(59,Ans.v (bo true)),(69,Ans.v (bo false))]) (by kernel_rfl) (ai h0 (ai h1 (ai h2 (ai h3 (ai h4 (ai h5 (ai h6 (ai h7 (ai h8 trivial)))))))))
theorem f38_ptfltftttttf (a0:List Lett)(x0:List Lexm)(X:Ext)(call:Caller)(lf i0:Nat)(a c d e:ByteArray)(g:Nat)(h:List AV)
 (h0:callv X call false 70 [lro a0.length 2 (List.flatMap lettC a0)] [] 0=some (bo true,[]))
 (h1:decide ((↑x0.length:Int)>256)=false)
 (h2:vexec Tryd.prog X call lf 0 fg38 (Code.loop (loopN Tryd.f38 0)) (f38_S0 a0 x0)=some (Ex.ret,(f38_S1 a0 x0 i0 a c d e g h))):vbody Tryd.prog X call lf fg38 Tryd.f38 (codeOf Tryd.f38) [lettsV a0,lexsV x0] [] 0=some (bo false,[Ob.mapo (idsR x0 i0)]) :=
  along_sound (ans:=[(4,Ans.v (bo true)),(12,Ans.b false),(22,Ans.l Ex.ret (f38_S1 a0 x0 i0 a c d e g h))]) (by kernel_rfl) (ai h0 (ai h1 (ai h2 trivial)))
theorem f38_r0_tfttttf (a0:List Lett)(x0:List Lexm)(X:Ext)(call:Caller)(lf i0:Nat)(a c d e:ByteArray)(g:Nat)(h r21:List AV)
 (h0:decide ((↑i0:Int)<(↑x0.length:Int))=true)
 (h1:keep [Ob.mapo (idsR x0 i0)] (indexAddrv Tryd.prog 22 [Ob.mapo (idsR x0 i0)] (lro x0.length 5 (List.flatMap lexC x0)) (i6 (↑i0:Int)))=some (AV.eaddr (st a::st c::st d::st e::lro g 2 h::r21),[Ob.mapo (idsR x0 i0)]))
 (h2:keep [Ob.mapo (idsR x0 i0)] (lookupv Tryd.prog 58 [Ob.mapo (idsR x0 i0)] (AV.map 0) (st a) false)=some (bo false,[Ob.mapo (idsR x0 i0)]))
 (h3:callv X call false 43 [st a] [Ob.mapo (idsR x0 i0)] 0=some (bo true,[Ob.mapo (idsR x0 i0)]))
 (h4:callv X call false 43 [st c] [Ob.mapo (idsR x0 i0)] 0=some (bo true,[Ob.mapo (idsR x0 i0)]))
 (h5:(!ByteArray.toList e == ByteArray.toList (ByteArray.mk #[]))=true)
 (h6:callv X call false 43 [st e] [Ob.mapo (idsR x0 i0)] 0=some (bo true,[Ob.mapo (idsR x0 i0)]))
 (h7:callv X call false 71 [lro a0.length 2 (List.flatMap lettC a0),st d] [Ob.mapo (idsR x0 i0)] 0=some (bo false,[Ob.mapo (idsR x0 i0)])):vexec Tryd.prog X call lf 0 fg38 (loopN Tryd.f38 0) (f38_F0 a0 x0 i0)=some (Ex.ret,(f38_S1 a0 x0 i0 a c d e g h)) :=
  around_sound (ans:=[(1,Ans.b true),(4,Ans.v (AV.eaddr (st a::st c::st d::st e::lro g 2 h::r21))),(10,Ans.v (bo false)),(17,Ans.v (bo true)),(27,Ans.v (bo true)),(37,Ans.b true),(45,Ans.v (bo true)),(59,Ans.v (bo false))]) (by kernel_rfl) (ai h0 (ai h1 (ai h2 (ai h3 (ai h4 (ai h5 (ai h6 (ai h7 trivial))))))))
theorem f38_ptfltfttttf (a0:List Lett)(x0:List Lexm)(X:Ext)(call:Caller)(lf i0:Nat)(a c d e:ByteArray)(g:Nat)(h:List AV)
 (h0:callv X call false 70 [lro a0.length 2 (List.flatMap lettC a0)] [] 0=some (bo true,[]))
 (h1:decide ((↑x0.length:Int)>256)=false)
 (h2:vexec Tryd.prog X call lf 0 fg38 (Code.loop (loopN Tryd.f38 0)) (f38_S0 a0 x0)=some (Ex.ret,(f38_S1 a0 x0 i0 a c d e g h))):vbody Tryd.prog X call lf fg38 Tryd.f38 (codeOf Tryd.f38) [lettsV a0,lexsV x0] [] 0=some (bo false,[Ob.mapo (idsR x0 i0)]) :=
  along_sound (ans:=[(4,Ans.v (bo true)),(12,Ans.b false),(22,Ans.l Ex.ret (f38_S1 a0 x0 i0 a c d e g h))]) (by kernel_rfl) (ai h0 (ai h1 (ai h2 trivial)))
theorem f38_r0_tftttf (a0:List Lett)(x0:List Lexm)(X:Ext)(call:Caller)(lf i0:Nat)(a c d e:ByteArray)(g:Nat)(h r21:List AV)
 (h0:decide ((↑i0:Int)<(↑x0.length:Int))=true)
 (h1:keep [Ob.mapo (idsR x0 i0)] (indexAddrv Tryd.prog 22 [Ob.mapo (idsR x0 i0)] (lro x0.length 5 (List.flatMap lexC x0)) (i6 (↑i0:Int)))=some (AV.eaddr (st a::st c::st d::st e::lro g 2 h::r21),[Ob.mapo (idsR x0 i0)]))
 (h2:keep [Ob.mapo (idsR x0 i0)] (lookupv Tryd.prog 58 [Ob.mapo (idsR x0 i0)] (AV.map 0) (st a) false)=some (bo false,[Ob.mapo (idsR x0 i0)]))
 (h3:callv X call false 43 [st a] [Ob.mapo (idsR x0 i0)] 0=some (bo true,[Ob.mapo (idsR x0 i0)]))
 (h4:callv X call false 43 [st c] [Ob.mapo (idsR x0 i0)] 0=some (bo true,[Ob.mapo (idsR x0 i0)]))
 (h5:(!ByteArray.toList e == ByteArray.toList (ByteArray.mk #[]))=true)
 (h6:callv X call false 43 [st e] [Ob.mapo (idsR x0 i0)] 0=some (bo false,[Ob.mapo (idsR x0 i0)])):vexec Tryd.prog X call lf 0 fg38 (loopN Tryd.f38 0) (f38_F0 a0 x0 i0)=some (Ex.ret,(f38_S1 a0 x0 i0 a c d e g h)) :=
  around_sound (ans:=[(1,Ans.b true),(4,Ans.v (AV.eaddr (st a::st c::st d::st e::lro g 2 h::r21))),(10,Ans.v (bo false)),(17,Ans.v (bo true)),(27,Ans.v (bo true)),(37,Ans.b true),(45,Ans.v (bo false))]) (by kernel_rfl) (ai h0 (ai h1 (ai h2 (ai h3 (ai h4 (ai h5 (ai h6 trivial)))))))
theorem f38_ptfltftttf (a0:List Lett)(x0:List Lexm)(X:Ext)(call:Caller)(lf i0:Nat)(a c d e:ByteArray)(g:Nat)(h:List AV)
 (h0:callv X call false 70 [lro a0.length 2 (List.flatMap lettC a0)] [] 0=some (bo true,[]))
 (h1:decide ((↑x0.length:Int)>256)=false)
 (h2:vexec Tryd.prog X call lf 0 fg38 (Code.loop (loopN Tryd.f38 0)) (f38_S0 a0 x0)=some (Ex.ret,(f38_S1 a0 x0 i0 a c d e g h))):vbody Tryd.prog X call lf fg38 Tryd.f38 (codeOf Tryd.f38) [lettsV a0,lexsV x0] [] 0=some (bo false,[Ob.mapo (idsR x0 i0)]) :=
  along_sound (ans:=[(4,Ans.v (bo true)),(12,Ans.b false),(22,Ans.l Ex.ret (f38_S1 a0 x0 i0 a c d e g h))]) (by kernel_rfl) (ai h0 (ai h1 (ai h2 trivial)))
theorem f38_s0_tfttftt (a0:List Lett)(x0:List Lexm)(X:Ext)(call:Caller)(lf i0:Nat)(a d e g:ByteArray)(h:Nat)(j r21:List AV)(sq74:List Ob)
 (h0:decide ((↑i0:Int)<(↑x0.length:Int))=true)
 (h1:keep [Ob.mapo (idsR x0 i0)] (indexAddrv Tryd.prog 22 [Ob.mapo (idsR x0 i0)] (lro x0.length 5 (List.flatMap lexC x0)) (i6 (↑i0:Int)))=some (AV.eaddr (st a::st d::st e::st g::lro h 2 j::r21),[Ob.mapo (idsR x0 i0)]))
 (h2:keep [Ob.mapo (idsR x0 i0)] (lookupv Tryd.prog 58 [Ob.mapo (idsR x0 i0)] (AV.map 0) (st a) false)=some (bo false,[Ob.mapo (idsR x0 i0)]))
 (h3:callv X call false 43 [st a] [Ob.mapo (idsR x0 i0)] 0=some (bo true,[Ob.mapo (idsR x0 i0)]))
 (h4:callv X call false 43 [st d] [Ob.mapo (idsR x0 i0)] 0=some (bo true,[Ob.mapo (idsR x0 i0)]))
 (h5:(!ByteArray.toList g == ByteArray.toList (ByteArray.mk #[]))=false)
 (h6:callv X call false 71 [lro a0.length 2 (List.flatMap lettC a0),st e] [Ob.mapo (idsR x0 i0)] 0=some (bo true,[Ob.mapo (idsR x0 i0)]))
 (h7:callv X call false 45 [lro h 2 j] [Ob.mapo (idsR x0 i0)] 0=some (bo true,[Ob.mapo (idsR x0 i0)]))
 (h8:unit1 (mapUpdatev Tryd.prog 58 [Ob.mapo (idsR x0 i0)] 0 (AV.map 0) (st a) (bo true))=some (AV.undef,sq74))
 (e0:(↑(i0 + 1):Int)=w6 ((↑i0:Int) + 1))
 (e1:[Ob.mapo (idsR x0 (i0 + 1))]=sq74):∃ Sx,vexec Tryd.prog X call lf 0 fg38 (loopN Tryd.f38 0) (f38_F0 a0 x0 i0)=some (Ex.normal,Sx)∧forget f38_D0 Sx=(f38_F0 a0 x0 (i0 + 1)) :=
  ⟨stOf 67 [4,8,9,10,11,12,13,14,21,22,23,24,25,26,27,28,29,30,31,32,33,34,35,36,37,38,39,40,41,42,43,44,45,46,47,48,49,50,51,52,53,54,55,56,57,58,59,60,61,63,64,65,66] [(0,lro a0.length 2 (List.flatMap lettC a0)),(1,lro x0.length 5 (List.flatMap lexC x0)),(5,AV.map 0),(7,AV.eaddr [st a,st d,st e,st g,lro h 2 j]),(15,bo false),(16,AV.map 0),(17,lro x0.length 5 (List.flatMap lexC x0)),(18,i6 (↑x0.length:Int)),(19,i6 (w6 ((↑i0:Int) + 1))),(20,bo true),(62,bo false)] sq74,around_sound (ans:=[(1,Ans.b true),(4,Ans.v (AV.eaddr (st a::st d::st e::st g::lro h 2 j::r21))),(10,Ans.v (bo false)),(17,Ans.v (bo true)),(27,Ans.v (bo true)),(37,Ans.b false),(55,Ans.v (bo true)),(65,Ans.v (bo true)),(74,Ans.c AV.undef sq74)]) (by kernel_rfl) (ai h0 (ai h1 (ai h2 (ai h3 (ai h4 (ai h5 (ai h6 (ai h7 (ai h8 trivial))))))))),by unfold f38_F0; rw [e0,e1]; show _=_; kernel_rfl⟩
theorem f38_r0_tfttftf (a0:List Lett)(x0:List Lexm)(X:Ext)(call:Caller)(lf i0:Nat)(a c d e:ByteArray)(g:Nat)(h r21:List AV)
 (h0:decide ((↑i0:Int)<(↑x0.length:Int))=true)
 (h1:keep [Ob.mapo (idsR x0 i0)] (indexAddrv Tryd.prog 22 [Ob.mapo (idsR x0 i0)] (lro x0.length 5 (List.flatMap lexC x0)) (i6 (↑i0:Int)))=some (AV.eaddr (st a::st c::st d::st e::lro g 2 h::r21),[Ob.mapo (idsR x0 i0)]))
 (h2:keep [Ob.mapo (idsR x0 i0)] (lookupv Tryd.prog 58 [Ob.mapo (idsR x0 i0)] (AV.map 0) (st a) false)=some (bo false,[Ob.mapo (idsR x0 i0)]))
 (h3:callv X call false 43 [st a] [Ob.mapo (idsR x0 i0)] 0=some (bo true,[Ob.mapo (idsR x0 i0)]))
 (h4:callv X call false 43 [st c] [Ob.mapo (idsR x0 i0)] 0=some (bo true,[Ob.mapo (idsR x0 i0)]))
 (h5:(!ByteArray.toList e == ByteArray.toList (ByteArray.mk #[]))=false)
 (h6:callv X call false 71 [lro a0.length 2 (List.flatMap lettC a0),st d] [Ob.mapo (idsR x0 i0)] 0=some (bo true,[Ob.mapo (idsR x0 i0)]))
 (h7:callv X call false 45 [lro g 2 h] [Ob.mapo (idsR x0 i0)] 0=some (bo false,[Ob.mapo (idsR x0 i0)])):vexec Tryd.prog X call lf 0 fg38 (loopN Tryd.f38 0) (f38_F0 a0 x0 i0)=some (Ex.ret,(f38_S1 a0 x0 i0 a c d e g h)) :=
  around_sound (ans:=[(1,Ans.b true),(4,Ans.v (AV.eaddr (st a::st c::st d::st e::lro g 2 h::r21))),(10,Ans.v (bo false)),(17,Ans.v (bo true)),(27,Ans.v (bo true)),(37,Ans.b false),(55,Ans.v (bo true)),(65,Ans.v (bo false))]) (by kernel_rfl) (ai h0 (ai h1 (ai h2 (ai h3 (ai h4 (ai h5 (ai h6 (ai h7 trivial))))))))
theorem f38_ptfltfttftf (a0:List Lett)(x0:List Lexm)(X:Ext)(call:Caller)(lf i0:Nat)(a c d e:ByteArray)(g:Nat)(h:List AV)
 (h0:callv X call false 70 [lro a0.length 2 (List.flatMap lettC a0)] [] 0=some (bo true,[]))
 (h1:decide ((↑x0.length:Int)>256)=false)
 (h2:vexec Tryd.prog X call lf 0 fg38 (Code.loop (loopN Tryd.f38 0)) (f38_S0 a0 x0)=some (Ex.ret,(f38_S1 a0 x0 i0 a c d e g h))):vbody Tryd.prog X call lf fg38 Tryd.f38 (codeOf Tryd.f38) [lettsV a0,lexsV x0] [] 0=some (bo false,[Ob.mapo (idsR x0 i0)]) :=
  along_sound (ans:=[(4,Ans.v (bo true)),(12,Ans.b false),(22,Ans.l Ex.ret (f38_S1 a0 x0 i0 a c d e g h))]) (by kernel_rfl) (ai h0 (ai h1 (ai h2 trivial)))
theorem f38_r0_tfttff (a0:List Lett)(x0:List Lexm)(X:Ext)(call:Caller)(lf i0:Nat)(a c d e:ByteArray)(g:Nat)(h r21:List AV)
 (h0:decide ((↑i0:Int)<(↑x0.length:Int))=true)
 (h1:keep [Ob.mapo (idsR x0 i0)] (indexAddrv Tryd.prog 22 [Ob.mapo (idsR x0 i0)] (lro x0.length 5 (List.flatMap lexC x0)) (i6 (↑i0:Int)))=some (AV.eaddr (st a::st c::st d::st e::lro g 2 h::r21),[Ob.mapo (idsR x0 i0)]))
 (h2:keep [Ob.mapo (idsR x0 i0)] (lookupv Tryd.prog 58 [Ob.mapo (idsR x0 i0)] (AV.map 0) (st a) false)=some (bo false,[Ob.mapo (idsR x0 i0)]))
 (h3:callv X call false 43 [st a] [Ob.mapo (idsR x0 i0)] 0=some (bo true,[Ob.mapo (idsR x0 i0)]))
 (h4:callv X call false 43 [st c] [Ob.mapo (idsR x0 i0)] 0=some (bo true,[Ob.mapo (idsR x0 i0)]))
 (h5:(!ByteArray.toList e == ByteArray.toList (ByteArray.mk #[]))=false)
 (h6:callv X call false 71 [lro a0.length 2 (List.flatMap lettC a0),st d] [Ob.mapo (idsR x0 i0)] 0=some (bo false,[Ob.mapo (idsR x0 i0)])):vexec Tryd.prog X call lf 0 fg38 (loopN Tryd.f38 0) (f38_F0 a0 x0 i0)=some (Ex.ret,(f38_S1 a0 x0 i0 a c d e g h)) :=
  around_sound (ans:=[(1,Ans.b true),(4,Ans.v (AV.eaddr (st a::st c::st d::st e::lro g 2 h::r21))),(10,Ans.v (bo false)),(17,Ans.v (bo true)),(27,Ans.v (bo true)),(37,Ans.b false),(55,Ans.v (bo false))]) (by kernel_rfl) (ai h0 (ai h1 (ai h2 (ai h3 (ai h4 (ai h5 (ai h6 trivial)))))))
theorem f38_ptfltfttff (a0:List Lett)(x0:List Lexm)(X:Ext)(call:Caller)(lf i0:Nat)(a c d e:ByteArray)(g:Nat)(h:List AV)
 (h0:callv X call false 70 [lro a0.length 2 (List.flatMap lettC a0)] [] 0=some (bo true,[]))
 (h1:decide ((↑x0.length:Int)>256)=false)
 (h2:vexec Tryd.prog X call lf 0 fg38 (Code.loop (loopN Tryd.f38 0)) (f38_S0 a0 x0)=some (Ex.ret,(f38_S1 a0 x0 i0 a c d e g h))):vbody Tryd.prog X call lf fg38 Tryd.f38 (codeOf Tryd.f38) [lettsV a0,lexsV x0] [] 0=some (bo false,[Ob.mapo (idsR x0 i0)]) :=
  along_sound (ans:=[(4,Ans.v (bo true)),(12,Ans.b false),(22,Ans.l Ex.ret (f38_S1 a0 x0 i0 a c d e g h))]) (by kernel_rfl) (ai h0 (ai h1 (ai h2 trivial)))
theorem f38_r0_tftf (a0:List Lett)(x0:List Lexm)(X:Ext)(call:Caller)(lf i0:Nat)(a c d e:ByteArray)(g:Nat)(h r21:List AV)
 (h0:decide ((↑i0:Int)<(↑x0.length:Int))=true)
 (h1:keep [Ob.mapo (idsR x0 i0)] (indexAddrv Tryd.prog 22 [Ob.mapo (idsR x0 i0)] (lro x0.length 5 (List.flatMap lexC x0)) (i6 (↑i0:Int)))=some (AV.eaddr (st a::st c::st d::st e::lro g 2 h::r21),[Ob.mapo (idsR x0 i0)]))
 (h2:keep [Ob.mapo (idsR x0 i0)] (lookupv Tryd.prog 58 [Ob.mapo (idsR x0 i0)] (AV.map 0) (st a) false)=some (bo false,[Ob.mapo (idsR x0 i0)]))
 (h3:callv X call false 43 [st a] [Ob.mapo (idsR x0 i0)] 0=some (bo true,[Ob.mapo (idsR x0 i0)]))
 (h4:callv X call false 43 [st c] [Ob.mapo (idsR x0 i0)] 0=some (bo false,[Ob.mapo (idsR x0 i0)])):vexec Tryd.prog X call lf 0 fg38 (loopN Tryd.f38 0) (f38_F0 a0 x0 i0)=some (Ex.ret,(f38_S1 a0 x0 i0 a c d e g h)) :=
  around_sound (ans:=[(1,Ans.b true),(4,Ans.v (AV.eaddr (st a::st c::st d::st e::lro g 2 h::r21))),(10,Ans.v (bo false)),(17,Ans.v (bo true)),(27,Ans.v (bo false))]) (by kernel_rfl) (ai h0 (ai h1 (ai h2 (ai h3 (ai h4 trivial)))))
theorem f38_ptfltftf (a0:List Lett)(x0:List Lexm)(X:Ext)(call:Caller)(lf i0:Nat)(a c d e:ByteArray)(g:Nat)(h:List AV)
 (h0:callv X call false 70 [lro a0.length 2 (List.flatMap lettC a0)] [] 0=some (bo true,[]))
 (h1:decide ((↑x0.length:Int)>256)=false)
 (h2:vexec Tryd.prog X call lf 0 fg38 (Code.loop (loopN Tryd.f38 0)) (f38_S0 a0 x0)=some (Ex.ret,(f38_S1 a0 x0 i0 a c d e g h))):vbody Tryd.prog X call lf fg38 Tryd.f38 (codeOf Tryd.f38) [lettsV a0,lexsV x0] [] 0=some (bo false,[Ob.mapo (idsR x0 i0)]) :=
  along_sound (ans:=[(4,Ans.v (bo true)),(12,Ans.b false),(22,Ans.l Ex.ret (f38_S1 a0 x0 i0 a c d e g h))]) (by kernel_rfl) (ai h0 (ai h1 (ai h2 trivial)))
theorem f38_r0_tff (a0:List Lett)(x0:List Lexm)(X:Ext)(call:Caller)(lf i0:Nat)(a c d e:ByteArray)(g:Nat)(h r21:List AV)
 (h0:decide ((↑i0:Int)<(↑x0.length:Int))=true)
 (h1:keep [Ob.mapo (idsR x0 i0)] (indexAddrv Tryd.prog 22 [Ob.mapo (idsR x0 i0)] (lro x0.length 5 (List.flatMap lexC x0)) (i6 (↑i0:Int)))=some (AV.eaddr (st a::st c::st d::st e::lro g 2 h::r21),[Ob.mapo (idsR x0 i0)]))
 (h2:keep [Ob.mapo (idsR x0 i0)] (lookupv Tryd.prog 58 [Ob.mapo (idsR x0 i0)] (AV.map 0) (st a) false)=some (bo false,[Ob.mapo (idsR x0 i0)]))
 (h3:callv X call false 43 [st a] [Ob.mapo (idsR x0 i0)] 0=some (bo false,[Ob.mapo (idsR x0 i0)])):vexec Tryd.prog X call lf 0 fg38 (loopN Tryd.f38 0) (f38_F0 a0 x0 i0)=some (Ex.ret,(f38_S1 a0 x0 i0 a c d e g h)) :=
  around_sound (ans:=[(1,Ans.b true),(4,Ans.v (AV.eaddr (st a::st c::st d::st e::lro g 2 h::r21))),(10,Ans.v (bo false)),(17,Ans.v (bo false))]) (by kernel_rfl) (ai h0 (ai h1 (ai h2 (ai h3 trivial))))
theorem f38_ptfltff (a0:List Lett)(x0:List Lexm)(X:Ext)(call:Caller)(lf i0:Nat)(a c d e:ByteArray)(g:Nat)(h:List AV)
 (h0:callv X call false 70 [lro a0.length 2 (List.flatMap lettC a0)] [] 0=some (bo true,[]))
 (h1:decide ((↑x0.length:Int)>256)=false)
 (h2:vexec Tryd.prog X call lf 0 fg38 (Code.loop (loopN Tryd.f38 0)) (f38_S0 a0 x0)=some (Ex.ret,(f38_S1 a0 x0 i0 a c d e g h))):vbody Tryd.prog X call lf fg38 Tryd.f38 (codeOf Tryd.f38) [lettsV a0,lexsV x0] [] 0=some (bo false,[Ob.mapo (idsR x0 i0)]) :=
  along_sound (ans:=[(4,Ans.v (bo true)),(12,Ans.b false),(22,Ans.l Ex.ret (f38_S1 a0 x0 i0 a c d e g h))]) (by kernel_rfl) (ai h0 (ai h1 (ai h2 trivial)))
def f38_S2 (a0:List Lett)(x0:List Lexm)(i0:Nat):St :=
  stOf 67 [4,7,8,9,10,11,12,13,14,21,22,23,24,25,26,27,28,29,30,31,32,33,34,35,36,37,38,39,40,41,42,43,44,45,46,47,48,49,50,51,52,53,54,55,56,57,58,59,60,61,62,63,64,65,66] [(0,lro a0.length 2 (List.flatMap lettC a0)),(1,lro x0.length 5 (List.flatMap lexC x0)),(5,AV.map 0),(15,bo false),(16,AV.map 0),(17,lro x0.length 5 (List.flatMap lexC x0)),(18,i6 (↑x0.length:Int)),(19,i6 (↑i0:Int)),(20,bo false)] [Ob.mapo (idsR x0 i0)]
theorem f38_r0_f (a0:List Lett)(x0:List Lexm)(X:Ext)(call:Caller)(lf i0:Nat)
 (h0:decide ((↑i0:Int)<(↑x0.length:Int))=false):vexec Tryd.prog X call lf 0 fg38 (loopN Tryd.f38 0) (f38_F0 a0 x0 i0)=some (Ex.exit 0,(f38_S2 a0 x0 i0)) :=
  around_sound (ans:=[(1,Ans.b false)]) (by kernel_rfl) (ai h0 trivial)
theorem f38_ptflf (a0:List Lett)(x0:List Lexm)(X:Ext)(call:Caller)(lf i0:Nat)
 (h0:callv X call false 70 [lro a0.length 2 (List.flatMap lettC a0)] [] 0=some (bo true,[]))
 (h1:decide ((↑x0.length:Int)>256)=false)
 (h2:vexec Tryd.prog X call lf 0 fg38 (Code.loop (loopN Tryd.f38 0)) (f38_S0 a0 x0)=some (Ex.exit 0,(f38_S2 a0 x0 i0))):vbody Tryd.prog X call lf fg38 Tryd.f38 (codeOf Tryd.f38) [lettsV a0,lexsV x0] [] 0=some (bo true,[Ob.mapo (idsR x0 i0)]) :=
  along_sound (ans:=[(4,Ans.v (bo true)),(12,Ans.b false),(22,Ans.l (Ex.exit 0) (f38_S2 a0 x0 i0))]) (by kernel_rfl) (ai h0 (ai h1 (ai h2 trivial)))
theorem f38_pf (a0:List Lett)(x0:List Lexm)(X:Ext)(call:Caller)(lf:Nat)
 (h0:callv X call false 70 [lro a0.length 2 (List.flatMap lettC a0)] [] 0=some (bo false,[])):vbody Tryd.prog X call lf fg38 Tryd.f38 (codeOf Tryd.f38) [lettsV a0,lexsV x0] [] 0=some (bo false,[]) :=
  along_sound (ans:=[(4,Ans.v (bo false))]) (by kernel_rfl) (ai h0 trivial)
def f38_o0 (x0:List Lexm)(i0:Nat)(a:ByteArray)(b0 b1 b2 b3 b4 b5 b6 b7:Bool):Nat :=
  (match decide ((↑i0:Int)<(↑x0.length:Int)) with
  | true=>(match b0 with
    | true=>1
    | false=>(match b1 with
      | true=>(match b2 with
        | true=>(match (!ByteArray.toList a == ByteArray.toList (ByteArray.mk #[])) with
          | true=>(match b3 with
            | true=>(match b4 with
              | true=>(match b5 with
                | true=>0
                | false=>1)
              | false=>1)
            | false=>1)
          | false=>(match b6 with
            | true=>(match b7 with
              | true=>0
              | false=>1)
            | false=>1))
        | false=>1)
      | false=>1))
  | false=>2)
theorem f38_B0 (a0:List Lett)(x0:List Lexm)(X:Ext)(call:Caller)(lf i0:Nat)(a b c d:ByteArray)(e:Nat)(g r21:List AV)(sq78 sq74:List Ob)(b0 b1 b2 b3 b4 b5 b6 b7:Bool)
 (g0:decide ((↑i0:Int)<(↑x0.length:Int))=true→keep [Ob.mapo (idsR x0 i0)] (indexAddrv Tryd.prog 22 [Ob.mapo (idsR x0 i0)] (lro x0.length 5 (List.flatMap lexC x0)) (i6 (↑i0:Int)))=some (AV.eaddr (st a::st b::st c::st d::lro e 2 g::r21),[Ob.mapo (idsR x0 i0)]))
 (g1:decide ((↑i0:Int)<(↑x0.length:Int))=true→keep [Ob.mapo (idsR x0 i0)] (lookupv Tryd.prog 58 [Ob.mapo (idsR x0 i0)] (AV.map 0) (st a) false)=some (bo b0,[Ob.mapo (idsR x0 i0)]))
 (g2:decide ((↑i0:Int)<(↑x0.length:Int))=true→b0=false→callv X call false 43 [st a] [Ob.mapo (idsR x0 i0)] 0=some (bo b1,[Ob.mapo (idsR x0 i0)]))
 (g3:decide ((↑i0:Int)<(↑x0.length:Int))=true→b0=false→b1=true→callv X call false 43 [st b] [Ob.mapo (idsR x0 i0)] 0=some (bo b2,[Ob.mapo (idsR x0 i0)]))
 (g4:decide ((↑i0:Int)<(↑x0.length:Int))=true→b0=false→b1=true→b2=true→(!ByteArray.toList d == ByteArray.toList (ByteArray.mk #[]))=true→callv X call false 43 [st d] [Ob.mapo (idsR x0 i0)] 0=some (bo b3,[Ob.mapo (idsR x0 i0)]))
 (g5:decide ((↑i0:Int)<(↑x0.length:Int))=true→b0=false→b1=true→b2=true→(!ByteArray.toList d == ByteArray.toList (ByteArray.mk #[]))=true→b3=true→callv X call false 71 [lro a0.length 2 (List.flatMap lettC a0),st c] [Ob.mapo (idsR x0 i0)] 0=some (bo b4,[Ob.mapo (idsR x0 i0)]))
 (g6:decide ((↑i0:Int)<(↑x0.length:Int))=true→b0=false→b1=true→b2=true→(!ByteArray.toList d == ByteArray.toList (ByteArray.mk #[]))=true→b3=true→b4=true→callv X call false 45 [lro e 2 g] [Ob.mapo (idsR x0 i0)] 0=some (bo b5,[Ob.mapo (idsR x0 i0)]))
 (g7:decide ((↑i0:Int)<(↑x0.length:Int))=true→b0=false→b1=true→b2=true→(!ByteArray.toList d == ByteArray.toList (ByteArray.mk #[]))=true→b3=true→b4=true→b5=true→unit1 (mapUpdatev Tryd.prog 58 [Ob.mapo (idsR x0 i0)] 0 (AV.map 0) (st a) (bo true))=some (AV.undef,sq78))
 (g8:decide ((↑i0:Int)<(↑x0.length:Int))=true→b0=false→b1=true→b2=true→(!ByteArray.toList d == ByteArray.toList (ByteArray.mk #[]))=false→callv X call false 71 [lro a0.length 2 (List.flatMap lettC a0),st c] [Ob.mapo (idsR x0 i0)] 0=some (bo b6,[Ob.mapo (idsR x0 i0)]))
 (g9:decide ((↑i0:Int)<(↑x0.length:Int))=true→b0=false→b1=true→b2=true→(!ByteArray.toList d == ByteArray.toList (ByteArray.mk #[]))=false→b6=true→callv X call false 45 [lro e 2 g] [Ob.mapo (idsR x0 i0)] 0=some (bo b7,[Ob.mapo (idsR x0 i0)]))
 (g10:decide ((↑i0:Int)<(↑x0.length:Int))=true→b0=false→b1=true→b2=true→(!ByteArray.toList d == ByteArray.toList (ByteArray.mk #[]))=false→b6=true→b7=true→unit1 (mapUpdatev Tryd.prog 58 [Ob.mapo (idsR x0 i0)] 0 (AV.map 0) (st a) (bo true))=some (AV.undef,sq74))
 (e0:decide ((↑i0:Int)<(↑x0.length:Int))=true→(↑(i0 + 1):Int)=w6 ((↑i0:Int) + 1))
 (e1:decide ((↑i0:Int)<(↑x0.length:Int))=true→b0=false→b1=true→b2=true→(!ByteArray.toList d == ByteArray.toList (ByteArray.mk #[]))=true→b3=true→b4=true→b5=true→[Ob.mapo (idsR x0 (i0 + 1))]=sq78)
 (e2:decide ((↑i0:Int)<(↑x0.length:Int))=true→b0=false→b1=true→b2=true→(!ByteArray.toList d == ByteArray.toList (ByteArray.mk #[]))=false→b6=true→b7=true→[Ob.mapo (idsR x0 (i0 + 1))]=sq74) :
    (f38_o0 x0 i0 d b0 b1 b2 b3 b4 b5 b6 b7=0→∃ Sx,vexec Tryd.prog X call lf 0 fg38 (loopN Tryd.f38 0) (f38_F0 a0 x0 i0)=some (Ex.normal,Sx)∧forget f38_D0 Sx=(f38_F0 a0 x0 (i0 + 1)))∧(f38_o0 x0 i0 d b0 b1 b2 b3 b4 b5 b6 b7=1→vexec Tryd.prog X call lf 0 fg38 (loopN Tryd.f38 0) (f38_F0 a0 x0 i0)=some (Ex.ret,(f38_S1 a0 x0 i0 a b c d e g)))∧(f38_o0 x0 i0 d b0 b1 b2 b3 b4 b5 b6 b7=2→vexec Tryd.prog X call lf 0 fg38 (loopN Tryd.f38 0) (f38_F0 a0 x0 i0)=some (Ex.exit 0,(f38_S2 a0 x0 i0))):=by
  unfold f38_o0
  cases c0:decide ((↑i0:Int)<(↑x0.length:Int)) with
  | true =>
    cases c1:b0 with
    | true =>
      exact ⟨fun h=>absurd (show (1:Nat)=0 from h) (by decide),fun _=>f38_r0_tt a0 x0 X call lf i0 a b c d e g r21 c0 (g0 c0) (by have:=(g1 c0); rw [c1] at this; exact this),fun h=>absurd (show (1:Nat)=2 from h) (by decide)⟩
    | false =>
      cases c2:b1 with
      | true =>
        cases c3:b2 with
        | true =>
          cases c4:(!ByteArray.toList d == ByteArray.toList (ByteArray.mk #[])) with
          | true =>
            cases c5:b3 with
            | true =>
              cases c6:b4 with
              | true =>
                cases c7:b5 with
                | true =>
                  exact ⟨fun _=>f38_s0_tftttttt a0 x0 X call lf i0 a b c d e g r21 sq78 c0 (g0 c0) (by have:=(g1 c0); rw [c1] at this; exact this) (by have:=(g2 c0 c1); rw [c2] at this; exact this) (by have:=(g3 c0 c1 c2); rw [c3] at this; exact this) c4 (by have:=(g4 c0 c1 c2 c3 c4); rw [c5] at this; exact this) (by have:=(g5 c0 c1 c2 c3 c4 c5); rw [c6] at this; exact this) (by have:=(g6 c0 c1 c2 c3 c4 c5 c6); rw [c7] at this; exact this) (g7 c0 c1 c2 c3 c4 c5 c6 c7) (e0 c0) (e1 c0 c1 c2 c3 c4 c5 c6 c7),fun h=>absurd (show (0:Nat)=1 from h) (by decide),fun h=>absurd (show (0:Nat)=2 from h) (by decide)⟩
                | false =>
                  exact ⟨fun h=>absurd (show (1:Nat)=0 from h) (by decide),fun _=>f38_r0_tftttttf a0 x0 X call lf i0 a b c d e g r21 c0 (g0 c0) (by have:=(g1 c0); rw [c1] at this; exact this) (by have:=(g2 c0 c1); rw [c2] at this; exact this) (by have:=(g3 c0 c1 c2); rw [c3] at this; exact this) c4 (by have:=(g4 c0 c1 c2 c3 c4); rw [c5] at this; exact this) (by have:=(g5 c0 c1 c2 c3 c4 c5); rw [c6] at this; exact this) (by have:=(g6 c0 c1 c2 c3 c4 c5 c6); rw [c7] at this; exact this),fun h=>absurd (show (1:Nat)=2 from h) (by decide)⟩
              | false =>
                exact ⟨fun h=>absurd (show (1:Nat)=0 from h) (by decide),fun _=>f38_r0_tfttttf a0 x0 X call lf i0 a b c d e g r21 c0 (g0 c0) (by have:=(g1 c0); rw [c1] at this; exact this) (by have:=(g2 c0 c1); rw [c2] at this; exact this) (by have:=(g3 c0 c1 c2); rw [c3] at this; exact this) c4 (by have:=(g4 c0 c1 c2 c3 c4); rw [c5] at this; exact this) (by have:=(g5 c0 c1 c2 c3 c4 c5); rw [c6] at this; exact this),fun h=>absurd (show (1:Nat)=2 from h) (by decide)⟩
            | false =>
              exact ⟨fun h=>absurd (show (1:Nat)=0 from h) (by decide),fun _=>f38_r0_tftttf a0 x0 X call lf i0 a b c d e g r21 c0 (g0 c0) (by have:=(g1 c0); rw [c1] at this; exact this) (by have:=(g2 c0 c1); rw [c2] at this; exact this) (by have:=(g3 c0 c1 c2); rw [c3] at this; exact this) c4 (by have:=(g4 c0 c1 c2 c3 c4); rw [c5] at this; exact this),fun h=>absurd (show (1:Nat)=2 from h) (by decide)⟩
          | false =>
            cases c5:b6 with
            | true =>
              cases c6:b7 with
              | true =>
                exact ⟨fun _=>f38_s0_tfttftt a0 x0 X call lf i0 a b c d e g r21 sq74 c0 (g0 c0) (by have:=(g1 c0); rw [c1] at this; exact this) (by have:=(g2 c0 c1); rw [c2] at this; exact this) (by have:=(g3 c0 c1 c2); rw [c3] at this; exact this) c4 (by have:=(g8 c0 c1 c2 c3 c4); rw [c5] at this; exact this) (by have:=(g9 c0 c1 c2 c3 c4 c5); rw [c6] at this; exact this) (g10 c0 c1 c2 c3 c4 c5 c6) (e0 c0) (e2 c0 c1 c2 c3 c4 c5 c6),fun h=>absurd (show (0:Nat)=1 from h) (by decide),fun h=>absurd (show (0:Nat)=2 from h) (by decide)⟩
              | false =>
                exact ⟨fun h=>absurd (show (1:Nat)=0 from h) (by decide),fun _=>f38_r0_tfttftf a0 x0 X call lf i0 a b c d e g r21 c0 (g0 c0) (by have:=(g1 c0); rw [c1] at this; exact this) (by have:=(g2 c0 c1); rw [c2] at this; exact this) (by have:=(g3 c0 c1 c2); rw [c3] at this; exact this) c4 (by have:=(g8 c0 c1 c2 c3 c4); rw [c5] at this; exact this) (by have:=(g9 c0 c1 c2 c3 c4 c5); rw [c6] at this; exact this),fun h=>absurd (show (1:Nat)=2 from h) (by decide)⟩
            | false =>
              exact ⟨fun h=>absurd (show (1:Nat)=0 from h) (by decide),fun _=>f38_r0_tfttff a0 x0 X call lf i0 a b c d e g r21 c0 (g0 c0) (by have:=(g1 c0); rw [c1] at this; exact this) (by have:=(g2 c0 c1); rw [c2] at this; exact this) (by have:=(g3 c0 c1 c2); rw [c3] at this; exact this) c4 (by have:=(g8 c0 c1 c2 c3 c4); rw [c5] at this; exact this),fun h=>absurd (show (1:Nat)=2 from h) (by decide)⟩
        | false =>
          exact ⟨fun h=>absurd (show (1:Nat)=0 from h) (by decide),fun _=>f38_r0_tftf a0 x0 X call lf i0 a b c d e g r21 c0 (g0 c0) (by have:=(g1 c0); rw [c1] at this; exact this) (by have:=(g2 c0 c1); rw [c2] at this; exact this) (by have:=(g3 c0 c1 c2); rw [c3] at this; exact this),fun h=>absurd (show (1:Nat)=2 from h) (by decide)⟩
      | false =>
        exact ⟨fun h=>absurd (show (1:Nat)=0 from h) (by decide),fun _=>f38_r0_tff a0 x0 X call lf i0 a b c d e g r21 c0 (g0 c0) (by have:=(g1 c0); rw [c1] at this; exact this) (by have:=(g2 c0 c1); rw [c2] at this; exact this),fun h=>absurd (show (1:Nat)=2 from h) (by decide)⟩
  | false =>
    exact ⟨fun h=>absurd (show (2:Nat)=0 from h) (by decide),fun h=>absurd (show (2:Nat)=1 from h) (by decide),fun _=>f38_r0_f a0 x0 X call lf i0 c0⟩
theorem f38_X0 (a0:List Lett)(x0:List Lexm)(X:Ext)(call:Caller)(lf i0:Nat)(a b c d:ByteArray)(e:Nat)(g r21:List AV)(sq78 sq74:List Ob)(b0 b1 b2 b3 b4 b5 b6 b7:Bool)
 (g0:decide ((↑i0:Int)<(↑x0.length:Int))=true→keep [Ob.mapo (idsR x0 i0)] (indexAddrv Tryd.prog 22 [Ob.mapo (idsR x0 i0)] (lro x0.length 5 (List.flatMap lexC x0)) (i6 (↑i0:Int)))=some (AV.eaddr (st a::st b::st c::st d::lro e 2 g::r21),[Ob.mapo (idsR x0 i0)]))
 (g1:decide ((↑i0:Int)<(↑x0.length:Int))=true→keep [Ob.mapo (idsR x0 i0)] (lookupv Tryd.prog 58 [Ob.mapo (idsR x0 i0)] (AV.map 0) (st a) false)=some (bo b0,[Ob.mapo (idsR x0 i0)]))
 (g2:decide ((↑i0:Int)<(↑x0.length:Int))=true→b0=false→callv X call false 43 [st a] [Ob.mapo (idsR x0 i0)] 0=some (bo b1,[Ob.mapo (idsR x0 i0)]))
 (g3:decide ((↑i0:Int)<(↑x0.length:Int))=true→b0=false→b1=true→callv X call false 43 [st b] [Ob.mapo (idsR x0 i0)] 0=some (bo b2,[Ob.mapo (idsR x0 i0)]))
 (g4:decide ((↑i0:Int)<(↑x0.length:Int))=true→b0=false→b1=true→b2=true→(!ByteArray.toList d == ByteArray.toList (ByteArray.mk #[]))=true→callv X call false 43 [st d] [Ob.mapo (idsR x0 i0)] 0=some (bo b3,[Ob.mapo (idsR x0 i0)]))
 (g5:decide ((↑i0:Int)<(↑x0.length:Int))=true→b0=false→b1=true→b2=true→(!ByteArray.toList d == ByteArray.toList (ByteArray.mk #[]))=true→b3=true→callv X call false 71 [lro a0.length 2 (List.flatMap lettC a0),st c] [Ob.mapo (idsR x0 i0)] 0=some (bo b4,[Ob.mapo (idsR x0 i0)]))
 (g6:decide ((↑i0:Int)<(↑x0.length:Int))=true→b0=false→b1=true→b2=true→(!ByteArray.toList d == ByteArray.toList (ByteArray.mk #[]))=true→b3=true→b4=true→callv X call false 45 [lro e 2 g] [Ob.mapo (idsR x0 i0)] 0=some (bo b5,[Ob.mapo (idsR x0 i0)]))
 (g7:decide ((↑i0:Int)<(↑x0.length:Int))=true→b0=false→b1=true→b2=true→(!ByteArray.toList d == ByteArray.toList (ByteArray.mk #[]))=true→b3=true→b4=true→b5=true→unit1 (mapUpdatev Tryd.prog 58 [Ob.mapo (idsR x0 i0)] 0 (AV.map 0) (st a) (bo true))=some (AV.undef,sq78))
 (g8:decide ((↑i0:Int)<(↑x0.length:Int))=true→b0=false→b1=true→b2=true→(!ByteArray.toList d == ByteArray.toList (ByteArray.mk #[]))=false→callv X call false 71 [lro a0.length 2 (List.flatMap lettC a0),st c] [Ob.mapo (idsR x0 i0)] 0=some (bo b6,[Ob.mapo (idsR x0 i0)]))
 (g9:decide ((↑i0:Int)<(↑x0.length:Int))=true→b0=false→b1=true→b2=true→(!ByteArray.toList d == ByteArray.toList (ByteArray.mk #[]))=false→b6=true→callv X call false 45 [lro e 2 g] [Ob.mapo (idsR x0 i0)] 0=some (bo b7,[Ob.mapo (idsR x0 i0)]))
 (g10:decide ((↑i0:Int)<(↑x0.length:Int))=true→b0=false→b1=true→b2=true→(!ByteArray.toList d == ByteArray.toList (ByteArray.mk #[]))=false→b6=true→b7=true→unit1 (mapUpdatev Tryd.prog 58 [Ob.mapo (idsR x0 i0)] 0 (AV.map 0) (st a) (bo true))=some (AV.undef,sq74)) :
    (f38_o0 x0 i0 d b0 b1 b2 b3 b4 b5 b6 b7=1→vexec Tryd.prog X call lf 0 fg38 (loopN Tryd.f38 0) (f38_F0 a0 x0 i0)=some (Ex.ret,(f38_S1 a0 x0 i0 a b c d e g)))∧(f38_o0 x0 i0 d b0 b1 b2 b3 b4 b5 b6 b7=2→vexec Tryd.prog X call lf 0 fg38 (loopN Tryd.f38 0) (f38_F0 a0 x0 i0)=some (Ex.exit 0,(f38_S2 a0 x0 i0))):=by
  unfold f38_o0
  cases c0:decide ((↑i0:Int)<(↑x0.length:Int)) with
  | true =>
    cases c1:b0 with
    | true =>
      exact ⟨fun _=>f38_r0_tt a0 x0 X call lf i0 a b c d e g r21 c0 (g0 c0) (by have:=(g1 c0); rw [c1] at this; exact this),fun h=>absurd (show (1:Nat)=2 from h) (by decide)⟩
    | false =>
      cases c2:b1 with
      | true =>
        cases c3:b2 with
        | true =>
          cases c4:(!ByteArray.toList d == ByteArray.toList (ByteArray.mk #[])) with
          | true =>
            cases c5:b3 with
            | true =>
              cases c6:b4 with
              | true =>
                cases c7:b5 with
                | true =>
                  exact ⟨fun h=>absurd (show (0:Nat)=1 from h) (by decide),fun h=>absurd (show (0:Nat)=2 from h) (by decide)⟩
                | false =>
                  exact ⟨fun _=>f38_r0_tftttttf a0 x0 X call lf i0 a b c d e g r21 c0 (g0 c0) (by have:=(g1 c0); rw [c1] at this; exact this) (by have:=(g2 c0 c1); rw [c2] at this; exact this) (by have:=(g3 c0 c1 c2); rw [c3] at this; exact this) c4 (by have:=(g4 c0 c1 c2 c3 c4); rw [c5] at this; exact this) (by have:=(g5 c0 c1 c2 c3 c4 c5); rw [c6] at this; exact this) (by have:=(g6 c0 c1 c2 c3 c4 c5 c6); rw [c7] at this; exact this),fun h=>absurd (show (1:Nat)=2 from h) (by decide)⟩
              | false =>
                exact ⟨fun _=>f38_r0_tfttttf a0 x0 X call lf i0 a b c d e g r21 c0 (g0 c0) (by have:=(g1 c0); rw [c1] at this; exact this) (by have:=(g2 c0 c1); rw [c2] at this; exact this) (by have:=(g3 c0 c1 c2); rw [c3] at this; exact this) c4 (by have:=(g4 c0 c1 c2 c3 c4); rw [c5] at this; exact this) (by have:=(g5 c0 c1 c2 c3 c4 c5); rw [c6] at this; exact this),fun h=>absurd (show (1:Nat)=2 from h) (by decide)⟩
            | false =>
              exact ⟨fun _=>f38_r0_tftttf a0 x0 X call lf i0 a b c d e g r21 c0 (g0 c0) (by have:=(g1 c0); rw [c1] at this; exact this) (by have:=(g2 c0 c1); rw [c2] at this; exact this) (by have:=(g3 c0 c1 c2); rw [c3] at this; exact this) c4 (by have:=(g4 c0 c1 c2 c3 c4); rw [c5] at this; exact this),fun h=>absurd (show (1:Nat)=2 from h) (by decide)⟩
          | false =>
            cases c5:b6 with
            | true =>
              cases c6:b7 with
              | true =>
                exact ⟨fun h=>absurd (show (0:Nat)=1 from h) (by decide),fun h=>absurd (show (0:Nat)=2 from h) (by decide)⟩
              | false =>
                exact ⟨fun _=>f38_r0_tfttftf a0 x0 X call lf i0 a b c d e g r21 c0 (g0 c0) (by have:=(g1 c0); rw [c1] at this; exact this) (by have:=(g2 c0 c1); rw [c2] at this; exact this) (by have:=(g3 c0 c1 c2); rw [c3] at this; exact this) c4 (by have:=(g8 c0 c1 c2 c3 c4); rw [c5] at this; exact this) (by have:=(g9 c0 c1 c2 c3 c4 c5); rw [c6] at this; exact this),fun h=>absurd (show (1:Nat)=2 from h) (by decide)⟩
            | false =>
              exact ⟨fun _=>f38_r0_tfttff a0 x0 X call lf i0 a b c d e g r21 c0 (g0 c0) (by have:=(g1 c0); rw [c1] at this; exact this) (by have:=(g2 c0 c1); rw [c2] at this; exact this) (by have:=(g3 c0 c1 c2); rw [c3] at this; exact this) c4 (by have:=(g8 c0 c1 c2 c3 c4); rw [c5] at this; exact this),fun h=>absurd (show (1:Nat)=2 from h) (by decide)⟩
        | false =>
          exact ⟨fun _=>f38_r0_tftf a0 x0 X call lf i0 a b c d e g r21 c0 (g0 c0) (by have:=(g1 c0); rw [c1] at this; exact this) (by have:=(g2 c0 c1); rw [c2] at this; exact this) (by have:=(g3 c0 c1 c2); rw [c3] at this; exact this),fun h=>absurd (show (1:Nat)=2 from h) (by decide)⟩
      | false =>
        exact ⟨fun _=>f38_r0_tff a0 x0 X call lf i0 a b c d e g r21 c0 (g0 c0) (by have:=(g1 c0); rw [c1] at this; exact this) (by have:=(g2 c0 c1); rw [c2] at this; exact this),fun h=>absurd (show (1:Nat)=2 from h) (by decide)⟩
  | false =>
    exact ⟨fun h=>absurd (show (2:Nat)=1 from h) (by decide),fun _=>f38_r0_f a0 x0 X call lf i0 c0⟩
theorem f38_M (a0:List Lett)(x0:List Lexm)(X:Ext)(call:Caller)(lf n:Nat)(a b c d:Nat→ByteArray)(e:Nat→Nat)(g r21:Nat→List AV)(sq78 sq74:Nat→List Ob)(b0 b1 b2 b3 b4 b5 b6 b7:Nat→Bool)
 (hn:n<lf)
 (g0:∀ i0,i0 ≤ n→decide ((↑i0:Int)<(↑x0.length:Int))=true→keep [Ob.mapo (idsR x0 i0)] (indexAddrv Tryd.prog 22 [Ob.mapo (idsR x0 i0)] (lro x0.length 5 (List.flatMap lexC x0)) (i6 (↑i0:Int)))=some (AV.eaddr (st (a i0)::st (b i0)::st (c i0)::st (d i0)::lro (e i0) 2 (g i0)::(r21 i0)),[Ob.mapo (idsR x0 i0)]))
 (g1:∀ i0,i0 ≤ n→decide ((↑i0:Int)<(↑x0.length:Int))=true→keep [Ob.mapo (idsR x0 i0)] (lookupv Tryd.prog 58 [Ob.mapo (idsR x0 i0)] (AV.map 0) (st (a i0)) false)=some (bo (b0 i0),[Ob.mapo (idsR x0 i0)]))
 (g2:∀ i0,i0 ≤ n→decide ((↑i0:Int)<(↑x0.length:Int))=true→(b0 i0)=false→callv X call false 43 [st (a i0)] [Ob.mapo (idsR x0 i0)] 0=some (bo (b1 i0),[Ob.mapo (idsR x0 i0)]))
 (g3:∀ i0,i0 ≤ n→decide ((↑i0:Int)<(↑x0.length:Int))=true→(b0 i0)=false→(b1 i0)=true→callv X call false 43 [st (b i0)] [Ob.mapo (idsR x0 i0)] 0=some (bo (b2 i0),[Ob.mapo (idsR x0 i0)]))
 (g4:∀ i0,i0 ≤ n→decide ((↑i0:Int)<(↑x0.length:Int))=true→(b0 i0)=false→(b1 i0)=true→(b2 i0)=true→(!ByteArray.toList (d i0) == ByteArray.toList (ByteArray.mk #[]))=true→callv X call false 43 [st (d i0)] [Ob.mapo (idsR x0 i0)] 0=some (bo (b3 i0),[Ob.mapo (idsR x0 i0)]))
 (g5:∀ i0,i0 ≤ n→decide ((↑i0:Int)<(↑x0.length:Int))=true→(b0 i0)=false→(b1 i0)=true→(b2 i0)=true→(!ByteArray.toList (d i0) == ByteArray.toList (ByteArray.mk #[]))=true→(b3 i0)=true→callv X call false 71 [lro a0.length 2 (List.flatMap lettC a0),st (c i0)] [Ob.mapo (idsR x0 i0)] 0=some (bo (b4 i0),[Ob.mapo (idsR x0 i0)]))
 (g6:∀ i0,i0 ≤ n→decide ((↑i0:Int)<(↑x0.length:Int))=true→(b0 i0)=false→(b1 i0)=true→(b2 i0)=true→(!ByteArray.toList (d i0) == ByteArray.toList (ByteArray.mk #[]))=true→(b3 i0)=true→(b4 i0)=true→callv X call false 45 [lro (e i0) 2 (g i0)] [Ob.mapo (idsR x0 i0)] 0=some (bo (b5 i0),[Ob.mapo (idsR x0 i0)]))
 (g7:∀ i0,i0 ≤ n→decide ((↑i0:Int)<(↑x0.length:Int))=true→(b0 i0)=false→(b1 i0)=true→(b2 i0)=true→(!ByteArray.toList (d i0) == ByteArray.toList (ByteArray.mk #[]))=true→(b3 i0)=true→(b4 i0)=true→(b5 i0)=true→unit1 (mapUpdatev Tryd.prog 58 [Ob.mapo (idsR x0 i0)] 0 (AV.map 0) (st (a i0)) (bo true))=some (AV.undef,(sq78 i0)))
 (g8:∀ i0,i0 ≤ n→decide ((↑i0:Int)<(↑x0.length:Int))=true→(b0 i0)=false→(b1 i0)=true→(b2 i0)=true→(!ByteArray.toList (d i0) == ByteArray.toList (ByteArray.mk #[]))=false→callv X call false 71 [lro a0.length 2 (List.flatMap lettC a0),st (c i0)] [Ob.mapo (idsR x0 i0)] 0=some (bo (b6 i0),[Ob.mapo (idsR x0 i0)]))
 (g9:∀ i0,i0 ≤ n→decide ((↑i0:Int)<(↑x0.length:Int))=true→(b0 i0)=false→(b1 i0)=true→(b2 i0)=true→(!ByteArray.toList (d i0) == ByteArray.toList (ByteArray.mk #[]))=false→(b6 i0)=true→callv X call false 45 [lro (e i0) 2 (g i0)] [Ob.mapo (idsR x0 i0)] 0=some (bo (b7 i0),[Ob.mapo (idsR x0 i0)]))
 (g10:∀ i0,i0 ≤ n→decide ((↑i0:Int)<(↑x0.length:Int))=true→(b0 i0)=false→(b1 i0)=true→(b2 i0)=true→(!ByteArray.toList (d i0) == ByteArray.toList (ByteArray.mk #[]))=false→(b6 i0)=true→(b7 i0)=true→unit1 (mapUpdatev Tryd.prog 58 [Ob.mapo (idsR x0 i0)] 0 (AV.map 0) (st (a i0)) (bo true))=some (AV.undef,(sq74 i0)))
 (e0:∀ i0,i0<n→decide ((↑i0:Int)<(↑x0.length:Int))=true→(↑(i0 + 1):Int)=w6 ((↑i0:Int) + 1))
 (e1:∀ i0,i0<n→decide ((↑i0:Int)<(↑x0.length:Int))=true→(b0 i0)=false→(b1 i0)=true→(b2 i0)=true→(!ByteArray.toList (d i0) == ByteArray.toList (ByteArray.mk #[]))=true→(b3 i0)=true→(b4 i0)=true→(b5 i0)=true→[Ob.mapo (idsR x0 (i0 + 1))]=(sq78 i0))
 (e2:∀ i0,i0<n→decide ((↑i0:Int)<(↑x0.length:Int))=true→(b0 i0)=false→(b1 i0)=true→(b2 i0)=true→(!ByteArray.toList (d i0) == ByteArray.toList (ByteArray.mk #[]))=false→(b6 i0)=true→(b7 i0)=true→[Ob.mapo (idsR x0 (i0 + 1))]=(sq74 i0))
 (hz:∀ j,j<n→f38_o0 x0 j (d j) (b0 j) (b1 j) (b2 j) (b3 j) (b4 j) (b5 j) (b6 j) (b7 j)=0) :
    (f38_o0 x0 n (d n) (b0 n) (b1 n) (b2 n) (b3 n) (b4 n) (b5 n) (b6 n) (b7 n)=1→callv X call false 70 [lro a0.length 2 (List.flatMap lettC a0)] [] 0=some (bo true,[])→decide ((↑x0.length:Int)>256)=false→vbody Tryd.prog X call lf fg38 Tryd.f38 (codeOf Tryd.f38) [lettsV a0,lexsV x0] [] 0=some (bo false,[Ob.mapo (idsR x0 n)]))∧(f38_o0 x0 n (d n) (b0 n) (b1 n) (b2 n) (b3 n) (b4 n) (b5 n) (b6 n) (b7 n)=1→callv X call false 70 [lro a0.length 2 (List.flatMap lettC a0)] [] 0=some (bo true,[])→decide ((↑x0.length:Int)>256)=false→vbody Tryd.prog X call lf fg38 Tryd.f38 (codeOf Tryd.f38) [lettsV a0,lexsV x0] [] 0=some (bo false,[Ob.mapo (idsR x0 n)]))∧(f38_o0 x0 n (d n) (b0 n) (b1 n) (b2 n) (b3 n) (b4 n) (b5 n) (b6 n) (b7 n)=1→callv X call false 70 [lro a0.length 2 (List.flatMap lettC a0)] [] 0=some (bo true,[])→decide ((↑x0.length:Int)>256)=false→vbody Tryd.prog X call lf fg38 Tryd.f38 (codeOf Tryd.f38) [lettsV a0,lexsV x0] [] 0=some (bo false,[Ob.mapo (idsR x0 n)]))∧(f38_o0 x0 n (d n) (b0 n) (b1 n) (b2 n) (b3 n) (b4 n) (b5 n) (b6 n) (b7 n)=1→callv X call false 70 [lro a0.length 2 (List.flatMap lettC a0)] [] 0=some (bo true,[])→decide ((↑x0.length:Int)>256)=false→vbody Tryd.prog X call lf fg38 Tryd.f38 (codeOf Tryd.f38) [lettsV a0,lexsV x0] [] 0=some (bo false,[Ob.mapo (idsR x0 n)]))∧(f38_o0 x0 n (d n) (b0 n) (b1 n) (b2 n) (b3 n) (b4 n) (b5 n) (b6 n) (b7 n)=1→callv X call false 70 [lro a0.length 2 (List.flatMap lettC a0)] [] 0=some (bo true,[])→decide ((↑x0.length:Int)>256)=false→vbody Tryd.prog X call lf fg38 Tryd.f38 (codeOf Tryd.f38) [lettsV a0,lexsV x0] [] 0=some (bo false,[Ob.mapo (idsR x0 n)]))∧(f38_o0 x0 n (d n) (b0 n) (b1 n) (b2 n) (b3 n) (b4 n) (b5 n) (b6 n) (b7 n)=1→callv X call false 70 [lro a0.length 2 (List.flatMap lettC a0)] [] 0=some (bo true,[])→decide ((↑x0.length:Int)>256)=false→vbody Tryd.prog X call lf fg38 Tryd.f38 (codeOf Tryd.f38) [lettsV a0,lexsV x0] [] 0=some (bo false,[Ob.mapo (idsR x0 n)]))∧(f38_o0 x0 n (d n) (b0 n) (b1 n) (b2 n) (b3 n) (b4 n) (b5 n) (b6 n) (b7 n)=1→callv X call false 70 [lro a0.length 2 (List.flatMap lettC a0)] [] 0=some (bo true,[])→decide ((↑x0.length:Int)>256)=false→vbody Tryd.prog X call lf fg38 Tryd.f38 (codeOf Tryd.f38) [lettsV a0,lexsV x0] [] 0=some (bo false,[Ob.mapo (idsR x0 n)]))∧(f38_o0 x0 n (d n) (b0 n) (b1 n) (b2 n) (b3 n) (b4 n) (b5 n) (b6 n) (b7 n)=1→callv X call false 70 [lro a0.length 2 (List.flatMap lettC a0)] [] 0=some (bo true,[])→decide ((↑x0.length:Int)>256)=false→vbody Tryd.prog X call lf fg38 Tryd.f38 (codeOf Tryd.f38) [lettsV a0,lexsV x0] [] 0=some (bo false,[Ob.mapo (idsR x0 n)]))∧(f38_o0 x0 n (d n) (b0 n) (b1 n) (b2 n) (b3 n) (b4 n) (b5 n) (b6 n) (b7 n)=2→callv X call false 70 [lro a0.length 2 (List.flatMap lettC a0)] [] 0=some (bo true,[])→decide ((↑x0.length:Int)>256)=false→vbody Tryd.prog X call lf fg38 Tryd.f38 (codeOf Tryd.f38) [lettsV a0,lexsV x0] [] 0=some (bo true,[Ob.mapo (idsR x0 n)])):=by
  have key:∀ j,j<n→_:=fun j hj=>(f38_B0 a0 x0 X call lf j (a j) (b j) (c j) (d j) (e j) (g j) (r21 j) (sq78 j) (sq74 j) (b0 j) (b1 j) (b2 j) (b3 j) (b4 j) (b5 j) (b6 j) (b7 j) (g0 j (Nat.le_of_lt hj)) (g1 j (Nat.le_of_lt hj)) (g2 j (Nat.le_of_lt hj)) (g3 j (Nat.le_of_lt hj)) (g4 j (Nat.le_of_lt hj)) (g5 j (Nat.le_of_lt hj)) (g6 j (Nat.le_of_lt hj)) (g7 j (Nat.le_of_lt hj)) (g8 j (Nat.le_of_lt hj)) (g9 j (Nat.le_of_lt hj)) (g10 j (Nat.le_of_lt hj)) (e0 j hj) (e1 j hj) (e2 j hj)).1 (hz j hj)
  have kn:=f38_X0 a0 x0 X call lf n (a n) (b n) (c n) (d n) (e n) (g n) (r21 n) (sq78 n) (sq74 n) (b0 n) (b1 n) (b2 n) (b3 n) (b4 n) (b5 n) (b6 n) (b7 n) (g0 n (Nat.le_refl n)) (g1 n (Nat.le_refl n)) (g2 n (Nat.le_refl n)) (g3 n (Nat.le_refl n)) (g4 n (Nat.le_refl n)) (g5 n (Nat.le_refl n)) (g6 n (Nat.le_refl n)) (g7 n (Nat.le_refl n)) (g8 n (Nat.le_refl n)) (g9 n (Nat.le_refl n)) (g10 n (Nat.le_refl n))
  exact ⟨fun hk q0 q1=>f38_ptfltt a0 x0 X call lf n (a n) (b n) (c n) (d n) (e n) (g n) q0 q1 (f38_L0 a0 x0 X call lf n _ _ hn key (kn.1 hk) (by simp)),
    fun hk q0 q1=>f38_ptfltftttttf a0 x0 X call lf n (a n) (b n) (c n) (d n) (e n) (g n) q0 q1 (f38_L0 a0 x0 X call lf n _ _ hn key (kn.1 hk) (by simp)),
    fun hk q0 q1=>f38_ptfltfttttf a0 x0 X call lf n (a n) (b n) (c n) (d n) (e n) (g n) q0 q1 (f38_L0 a0 x0 X call lf n _ _ hn key (kn.1 hk) (by simp)),
    fun hk q0 q1=>f38_ptfltftttf a0 x0 X call lf n (a n) (b n) (c n) (d n) (e n) (g n) q0 q1 (f38_L0 a0 x0 X call lf n _ _ hn key (kn.1 hk) (by simp)),
    fun hk q0 q1=>f38_ptfltfttftf a0 x0 X call lf n (a n) (b n) (c n) (d n) (e n) (g n) q0 q1 (f38_L0 a0 x0 X call lf n _ _ hn key (kn.1 hk) (by simp)),
    fun hk q0 q1=>f38_ptfltfttff a0 x0 X call lf n (a n) (b n) (c n) (d n) (e n) (g n) q0 q1 (f38_L0 a0 x0 X call lf n _ _ hn key (kn.1 hk) (by simp)),
    fun hk q0 q1=>f38_ptfltftf a0 x0 X call lf n (a n) (b n) (c n) (d n) (e n) (g n) q0 q1 (f38_L0 a0 x0 X call lf n _ _ hn key (kn.1 hk) (by simp)),
    fun hk q0 q1=>f38_ptfltff a0 x0 X call lf n (a n) (b n) (c n) (d n) (e n) (g n) q0 q1 (f38_L0 a0 x0 X call lf n _ _ hn key (kn.1 hk) (by simp)),
    fun hk q0 q1=>f38_ptflf a0 x0 X call lf n q0 q1 (f38_L0 a0 x0 X call lf n _ _ hn key (kn.2 hk) (by simp))⟩
def fg12:Nat→List Nat
  | 1=>[13,14,15,16,17,18,19,20,21,22,23,24,25,26,27,28,29,30,31,32,33,34]
  | 3=>[37,38,39,40,41,42,44,45,46,47,48,49,43,50]
  | 4=>[51,52,53,54,55,56,57,58,59,60]
  | 5=>[61,62,63,64,65,66,67,68,69,70]
  | _=>[]
def f12_S0 (a0:List Lett)(x0:List Lexm)(j4:Int):St :=
  stOf 102 [] [(0,lro a0.length 2 (List.flatMap lettC a0)),(1,lro x0.length 5 (List.flatMap lexC x0)),(2,i6 j4),(6,bo false)] []
def f12_S1 (a0:List Lett)(x0:List Lexm)(j4:Int):St :=
  stOf 102 [13,14,15,16,17,18,19,20,21,22,23,24,25,26,27,28,29,30,31,32,33,34] [(0,lro a0.length 2 (List.flatMap lettC a0)),(1,lro x0.length 5 (List.flatMap lexC x0)),(2,i6 j4),(6,bo false),(35,bo true)] []
theorem f12_g1_ttt (a0:List Lett)(x0:List Lexm)(j4:Int)(X:Ext)(call:Caller)(lf:Nat)
 (h0:callv X call false 14 [] [] 0=some (bo true,[]))
 (h1:callv X call false 15 [lro x0.length 5 (List.flatMap lexC x0)] [] 0=some (bo true,[]))
 (h2:decide (j4<0)=true):vexec Tryd.prog X call lf 0 fg12 (regN Tryd.f12 1) (f12_S0 a0 x0 j4)=some (Ex.normal,(f12_S1 a0 x0 j4)) :=
  around_sound (ans:=[(1,Ans.v (bo true)),(7,Ans.v (bo true)),(15,Ans.b true)]) (by kernel_rfl) (ai h0 (ai h1 (ai h2 trivial)))
theorem f12_g1_ttft (a0:List Lett)(x0:List Lexm)(j4:Int)(X:Ext)(call:Caller)(lf:Nat)
 (h0:callv X call false 14 [] [] 0=some (bo true,[]))
 (h1:callv X call false 15 [lro x0.length 5 (List.flatMap lexC x0)] [] 0=some (bo true,[]))
 (h2:decide (j4<0)=false)
 (h3:decide (j4 ≥ (↑x0.length:Int))=true):vexec Tryd.prog X call lf 0 fg12 (regN Tryd.f12 1) (f12_S0 a0 x0 j4)=some (Ex.normal,(f12_S1 a0 x0 j4)) :=
  around_sound (ans:=[(1,Ans.v (bo true)),(7,Ans.v (bo true)),(15,Ans.b false),(25,Ans.b true)]) (by kernel_rfl) (ai h0 (ai h1 (ai h2 (ai h3 trivial))))
theorem f12_g1_ttfft (a0:List Lett)(x0:List Lexm)(j4:Int)(X:Ext)(call:Caller)(lf:Nat)
 (h0:callv X call false 14 [] [] 0=some (bo true,[]))
 (h1:callv X call false 15 [lro x0.length 5 (List.flatMap lexC x0)] [] 0=some (bo true,[]))
 (h2:decide (j4<0)=false)
 (h3:decide (j4 ≥ (↑x0.length:Int))=false)
 (h4:callv X call false 38 [lro a0.length 2 (List.flatMap lettC a0),lro x0.length 5 (List.flatMap lexC x0)] [] 0=some (bo true,[])):vexec Tryd.prog X call lf 0 fg12 (regN Tryd.f12 1) (f12_S0 a0 x0 j4)=some (Ex.normal,stOf 102 [13,14,15,16,17,18,19,20,21,22,23,24,25,26,27,28,29,30,31,32,33,34] [(0,lro a0.length 2 (List.flatMap lettC a0)),(1,lro x0.length 5 (List.flatMap lexC x0)),(2,i6 j4),(6,bo false),(35,bo false)] []) :=
  around_sound (ans:=[(1,Ans.v (bo true)),(7,Ans.v (bo true)),(15,Ans.b false),(25,Ans.b false),(33,Ans.v (bo true))]) (by kernel_rfl) (ai h0 (ai h1 (ai h2 (ai h3 (ai h4 trivial)))))
theorem f12_g1_ttfff (a0:List Lett)(x0:List Lexm)(j4:Int)(X:Ext)(call:Caller)(lf:Nat)
 (h0:callv X call false 14 [] [] 0=some (bo true,[]))
 (h1:callv X call false 15 [lro x0.length 5 (List.flatMap lexC x0)] [] 0=some (bo true,[]))
 (h2:decide (j4<0)=false)
 (h3:decide (j4 ≥ (↑x0.length:Int))=false)
 (h4:callv X call false 38 [lro a0.length 2 (List.flatMap lettC a0),lro x0.length 5 (List.flatMap lexC x0)] [] 0=some (bo false,[])):vexec Tryd.prog X call lf 0 fg12 (regN Tryd.f12 1) (f12_S0 a0 x0 j4)=some (Ex.normal,(f12_S1 a0 x0 j4)) :=
  around_sound (ans:=[(1,Ans.v (bo true)),(7,Ans.v (bo true)),(15,Ans.b false),(25,Ans.b false),(33,Ans.v (bo false))]) (by kernel_rfl) (ai h0 (ai h1 (ai h2 (ai h3 (ai h4 trivial)))))
theorem f12_g1_tf (a0:List Lett)(x0:List Lexm)(j4:Int)(X:Ext)(call:Caller)(lf:Nat)
 (h0:callv X call false 14 [] [] 0=some (bo true,[]))
 (h1:callv X call false 15 [lro x0.length 5 (List.flatMap lexC x0)] [] 0=some (bo false,[])):vexec Tryd.prog X call lf 0 fg12 (regN Tryd.f12 1) (f12_S0 a0 x0 j4)=some (Ex.normal,(f12_S1 a0 x0 j4)) :=
  around_sound (ans:=[(1,Ans.v (bo true)),(7,Ans.v (bo false))]) (by kernel_rfl) (ai h0 (ai h1 trivial))
def f12_S2 (a0:List Lett)(x0:List Lexm)(j4:Int)(b35:Bool):St :=
  stOf 102 [13,14,15,16,17,18,19,20,21,22,23,24,25,26,27,28,29,30,31,32,33,34] [(0,lro a0.length 2 (List.flatMap lettC a0)),(1,lro x0.length 5 (List.flatMap lexC x0)),(2,i6 j4),(6,bo false),(35,bo b35)] []
theorem f12_ptt (a0:List Lett)(x0:List Lexm)(j4:Int)(b35:Bool)(X:Ext)(call:Caller)(lf:Nat)
 (h0:vexec Tryd.prog X call lf 0 fg12 (regN Tryd.f12 1) (f12_S0 a0 x0 j4)=some (Ex.normal,(f12_S2 a0 x0 j4 b35)))
 (h1:b35=true)
 (h2:callv X call false 14 [] [] 0=some (bo true,[])):vbody Tryd.prog X call lf fg12 Tryd.f12 (codeOf Tryd.f12) [lettsV a0,lexsV x0,i6 j4] [] 0=some (bo true,[]) :=
  along_sound (ans:=[(2,Ans.l Ex.normal (f12_S2 a0 x0 j4 b35)),(3,Ans.b true),(5,Ans.v (bo true))]) (by kernel_rfl) (ai h0 (ai h1 (ai h2 trivial)))
theorem f12_pfttttt (a0:List Lett)(x0:List Lexm)(j4:Int)(b35:Bool)(X:Ext)(call:Caller)(lf:Nat)(a c d e:ByteArray)(g:Nat)(h r40:List AV)(m43:Nat)(c43:List AV)(j k p q:ByteArray)(r:Nat)(t r47:List AV)(m50:Nat)(c50:List AV)(u w y z:ByteArray)(a1:Nat)(b1 r55:List AV)(c1 d1 e1 g1:ByteArray)(j1:Nat)(k1:List AV)(p1:Bool)(q1 r1 t1 u1:ByteArray)(v1:Nat)(w1 r65:List AV)(y1 z1 a2 b2:ByteArray)(c2:Nat)(d2:List AV)(e2:Bool)(g2 j2 k2 p2:ByteArray)(q2:Nat)(r2 r74:List AV)(n77:Int)(t2 u2 v2 w2:ByteArray)(y2:Nat)(z2 r90:List AV)(a3 b3 c3 d3:ByteArray)(e3:Nat)(g3 r98:List AV)
 (h0:vexec Tryd.prog X call lf 0 fg12 (regN Tryd.f12 1) (f12_S0 a0 x0 j4)=some (Ex.normal,(f12_S2 a0 x0 j4 b35)))
 (h1:b35=false)
 (h2:keep [] (indexAddrv Tryd.prog 22 [] (lro x0.length 5 (List.flatMap lexC x0)) (i6 j4))=some (AV.eaddr (st a::st c::st d::st e::lro g 2 h::r40),[]))
 (h3:callv X call true 17 [lro x0.length 5 (List.flatMap lexC x0),st c] [] 0=some (lro m43 5 c43,[]))
 (h4:keep [] (indexAddrv Tryd.prog 22 [] (lro x0.length 5 (List.flatMap lexC x0)) (i6 j4))=some (AV.eaddr (st j::st k::st p::st q::lro r 2 t::r47),[]))
 (h5:callv X call true 33 [lro x0.length 5 (List.flatMap lexC x0),st p] [] 0=some (lro m50 5 c50,[]))
 (h6:keep [] (indexAddrv Tryd.prog 22 [] (lro x0.length 5 (List.flatMap lexC x0)) (i6 j4))=some (AV.eaddr (st u::st w::st y::st z::lro a1 2 b1::r55),[]))
 (h7:callv X call false 26 [lro m43 5 c43,st u] [] 0=some (AV.tup [AV.agg [st c1,st d1,st e1,st g1,lro j1 2 k1],bo p1],[]))
 (h8:p1=true)
 (h9:keep [Ob.cells [st c1,st d1,st e1,st g1,lro j1 2 k1]] (indexAddrv Tryd.prog 22 [Ob.cells [st c1,st d1,st e1,st g1,lro j1 2 k1]] (lro x0.length 5 (List.flatMap lexC x0)) (i6 j4))=some (AV.eaddr (st q1::st r1::st t1::st u1::lro v1 2 w1::r65),[Ob.cells [st c1,st d1,st e1,st g1,lro j1 2 k1]]))
 (h10:callv X call false 26 [lro m50 5 c50,st q1] [Ob.cells [st c1,st d1,st e1,st g1,lro j1 2 k1]] 0=some (AV.tup [AV.agg [st y1,st z1,st a2,st b2,lro c2 2 d2],bo e2],[Ob.cells [st c1,st d1,st e1,st g1,lro j1 2 k1]]))
 (h11:e2=true)
 (h12:keep [Ob.cells [st c1,st d1,st e1,st g1,lro j1 2 k1],Ob.cells [st y1,st z1,st a2,st b2,lro c2 2 d2]] (indexAddrv Tryd.prog 22 [Ob.cells [st c1,st d1,st e1,st g1,lro j1 2 k1],Ob.cells [st y1,st z1,st a2,st b2,lro c2 2 d2]] (lro x0.length 5 (List.flatMap lexC x0)) (i6 j4))=some (AV.eaddr (st g2::st j2::st k2::st p2::lro q2 2 r2::r74),[Ob.cells [st c1,st d1,st e1,st g1,lro j1 2 k1],Ob.cells [st y1,st z1,st a2,st b2,lro c2 2 d2]]))
 (h13:callv X call true 28 [lro x0.length 5 (List.flatMap lexC x0),st g2] [Ob.cells [st c1,st d1,st e1,st g1,lro j1 2 k1],Ob.cells [st y1,st z1,st a2,st b2,lro c2 2 d2]] 0=some (i6 n77,[Ob.cells [st c1,st d1,st e1,st g1,lro j1 2 k1],Ob.cells [st y1,st z1,st a2,st b2,lro c2 2 d2]]))
 (h14:(n77 == j4)=true)
 (h15:keep [Ob.cells [st c1,st d1,st e1,st g1,lro j1 2 k1],Ob.cells [st y1,st z1,st a2,st b2,lro c2 2 d2]] (indexAddrv Tryd.prog 22 [Ob.cells [st c1,st d1,st e1,st g1,lro j1 2 k1],Ob.cells [st y1,st z1,st a2,st b2,lro c2 2 d2]] (lro x0.length 5 (List.flatMap lexC x0)) (i6 j4))=some (AV.eaddr (st t2::st u2::st v2::st w2::lro y2 2 z2::r90),[Ob.cells [st c1,st d1,st e1,st g1,lro j1 2 k1],Ob.cells [st y1,st z1,st a2,st b2,lro c2 2 d2]]))
 (h16:callv X call true 25 [AV.agg [st c1,st d1,st e1,st g1,lro j1 2 k1],AV.agg [st t2,st u2,st v2,st w2,lro y2 2 z2]] [Ob.cells [st c1,st d1,st e1,st g1,lro j1 2 k1],Ob.cells [st y1,st z1,st a2,st b2,lro c2 2 d2]] 0=some (bo true,[Ob.cells [st c1,st d1,st e1,st g1,lro j1 2 k1],Ob.cells [st y1,st z1,st a2,st b2,lro c2 2 d2]]))
 (h17:keep [Ob.cells [st c1,st d1,st e1,st g1,lro j1 2 k1],Ob.cells [st y1,st z1,st a2,st b2,lro c2 2 d2]] (indexAddrv Tryd.prog 22 [Ob.cells [st c1,st d1,st e1,st g1,lro j1 2 k1],Ob.cells [st y1,st z1,st a2,st b2,lro c2 2 d2]] (lro x0.length 5 (List.flatMap lexC x0)) (i6 j4))=some (AV.eaddr (st a3::st b3::st c3::st d3::lro e3 2 g3::r98),[Ob.cells [st c1,st d1,st e1,st g1,lro j1 2 k1],Ob.cells [st y1,st z1,st a2,st b2,lro c2 2 d2]]))
 (h18:callv X call true 25 [AV.agg [st y1,st z1,st a2,st b2,lro c2 2 d2],AV.agg [st a3,st b3,st c3,st d3,lro e3 2 g3]] [Ob.cells [st c1,st d1,st e1,st g1,lro j1 2 k1],Ob.cells [st y1,st z1,st a2,st b2,lro c2 2 d2]] 0=some (bo true,[Ob.cells [st c1,st d1,st e1,st g1,lro j1 2 k1],Ob.cells [st y1,st z1,st a2,st b2,lro c2 2 d2]])):vbody Tryd.prog X call lf fg12 Tryd.f12 (codeOf Tryd.f12) [lettsV a0,lexsV x0,i6 j4] [] 0=some (bo true,[Ob.cells [st c1,st d1,st e1,st g1,lro j1 2 k1],Ob.cells [st y1,st z1,st a2,st b2,lro c2 2 d2]]) :=
  along_sound (ans:=[(2,Ans.l Ex.normal (f12_S2 a0 x0 j4 b35)),(3,Ans.b false),(8,Ans.v (AV.eaddr (st a::st c::st d::st e::lro g 2 h::r40))),(11,Ans.v (lro m43 5 c43)),(15,Ans.v (AV.eaddr (st j::st k::st p::st q::lro r 2 t::r47))),(18,Ans.v (lro m50 5 c50)),(25,Ans.v (AV.eaddr (st u::st w::st y::st z::lro a1 2 b1::r55))),(28,Ans.v (AV.tup [AV.agg [st c1,st d1,st e1,st g1,lro j1 2 k1],bo p1])),(31,Ans.b true),(39,Ans.v (AV.eaddr (st q1::st r1::st t1::st u1::lro v1 2 w1::r65))),(42,Ans.v (AV.tup [AV.agg [st y1,st z1,st a2,st b2,lro c2 2 d2],bo e2])),(45,Ans.b true),(53,Ans.v (AV.eaddr (st g2::st j2::st k2::st p2::lro q2 2 r2::r74))),(56,Ans.v (i6 n77)),(58,Ans.b true),(75,Ans.v (AV.eaddr (st t2::st u2::st v2::st w2::lro y2 2 z2::r90))),(79,Ans.v (bo true)),(89,Ans.v (AV.eaddr (st a3::st b3::st c3::st d3::lro e3 2 g3::r98))),(93,Ans.v (bo true))]) (by kernel_rfl) (ai h0 (ai h1 (ai h2 (ai h3 (ai h4 (ai h5 (ai h6 (ai h7 (ai h8 (ai h9 (ai h10 (ai h11 (ai h12 (ai h13 (ai h14 (ai h15 (ai h16 (ai h17 (ai h18 trivial)))))))))))))))))))
end Go.Proofs.Lex
end
/- Lexicon: Concat, Grow, and filter by a closure that captures nothing (printed) -/
section
open Go Go.Vm Go.Proofs
namespace Go.Proofs.Lex
end Go.Proofs.Lex
end
/- Lexicon: slices.Concat of two lists of lexemes. -/
section
open Go Go.Vm Go.Proofs
namespace Go.Proofs.Lex
section
variable [Fixed] {X:Ext}
end
end Go.Proofs.Lex
end
/- Lexicon: Merge, walked (printed) -/
section
open Go Go.Vm Go.Proofs
namespace Go.Proofs.Lex
end Go.Proofs.Lex
end
/- Lexicon: Merge, the program's and the reference's. -/
section
open Go Go.Vm Go.Proofs
namespace Go.Proofs.Lex
theorem lookEs_es (c:ByteArray):∀ (l:List ByteArray),lookupEs (st c) (esOf l)=some (if l.any (fun x=>decide (x=c))=true then some (bo true) else none)
  | []=>rfl
  | x :: l => by
    show lookupEs (st c) ((st x,bo true)::esOf l)=_
    unfold lookupEs
    rw [lookEs_es c l]
    by_cases h:c=x
    · subst h
      simp
    · have h' : ¬ x = c := fun e => h e.symm
      rw [List.any_cons,decide_eq_false h',Bool.false_or]
      simp only [if_neg h]
theorem look58 (c:ByteArray) (l:List ByteArray):keep [.mapo (esOf l)] (lookupv Tryd.prog 58 [.mapo (esOf l)] (.map 0) (st c) false)=some (bo (l.any fun x=>decide (x=c)),[.mapo (esOf l)]):=by
  have hu:Tryd.prog.underlying 58=some (.map 9 4):=by kernel_rfl
  have hz:zerov Tryd.prog 4=some (bo false):=by kernel_rfl
  unfold lookupv entriesOf
  rw [hu]
  simp only [Tryd.underlying9,List.getElem?_cons_zero,hz,lookEs_es]
  rw [if_pos (show isKey TypeDesc.string (st c)=true from rfl)]
  cases l.any fun x=>decide (x=c) <;> rfl
section
variable [Fixed] {X:Ext} {call:Caller} {lf:Nat}
end
end Go.Proofs.Lex
end
/- Lexicon: alphabets, told: ValidRune, indices, Valid; words. -/
section
open Go Go.Vm Go.Proofs
namespace Go.Proofs.Lex
/-- A rune that UTF-8 can write. -/
def validR (n:Int):Bool:=(decide (0 ≤ n) && decide (n < 55296)) || (decide (57343 < n) && decide (n ≤ 1114111))
def goodL (x:Lett):Bool := !decide (x.r ≤ 32) && validR x.r
/-- Whether letters are an alphabet. -/
def alphaF (a:List Lett):Bool:=decide (1 ≤ a.length) && (decide (a.length ≤ 64) && (a.all goodL && decide ((idxR a a.length).length=a.length)))
theorem under110:Tryd.prog.underlying 110=some (.map 21 3):=by kernel_rfl
theorem zero3:zerov Tryd.prog 3=some (i6 0):=by kernel_rfl
theorem look110 {l:List (Int × Nat)} {r:Int}:keep [.mapo (mapR l)] (lookupv Tryd.prog 110 [.mapo (mapR l)] (.map 0) (i3 r) true)=some (.tup [i6 (((l.find? fun e=>e.1 == r).map fun e=>(e.2:Int)).getD 0),bo (l.any fun e=>e.1 == r)],[.mapo (mapR l)]):=by
  have hu:=Tryd.underlying21
  unfold lookupv entriesOf
  rw [under110]
  simp only [hu,List.getElem?_cons_zero,zero3,look_E]
  rw [if_pos (show isKey (TypeDesc.int IntKind.i32) (i3 r)=true from rfl),← find_any]
  cases h:l.find? fun e=>e.1 == r <;> rfl
theorem put110 {l:List (Int × Nat)} {r:Int} {k:Nat} (h:(l.any fun e=>e.1 == r)=false):unit1 (mapUpdatev Tryd.prog 110 [.mapo (mapR l)] 0 (.map 0) (i3 r) (i6 (k:Int)))=some (.undef,[.mapo (mapR (l ++ [(r,k)]))]):=by
  have hu:=Tryd.underlying21
  unfold mapUpdatev
  rw [under110]
  simp only [hu,List.getElem?_cons_zero,put_E h]
  rw [if_pos ⟨show isKey (TypeDesc.int IntKind.i32) (i3 r)=true from rfl,Nat.le_refl _⟩]
  rfl
section
variable {X:Ext} {call:Caller} {lf:Nat}
/-- alphabet.indices. -/
theorem indices92 {a:List Lett} (hl:a.length ≤ big) (hlf:a.length < lf):vbody Tryd.prog X call lf fg92 Tryd.f92 (codeOf Tryd.f92) [lettsV a] [] 0=some (.map 0,[.mapo (mapR (idxR a a.length))]):=by
  have lt:∀ {i:Nat},decide ((i:Int) < (a.length:Int))=true→i < a.length:=fun h=>by have:=of_decide_eq_true h; omega
  refine f92_M a X call lf a.length (fun i => (nT a i).r) (fun i => (nT a i).c) (fun i => tT a i) (fun i => ((((idxR a i).find? fun e => e.1 == (nT a i).r).map fun e => (e.2 : Int)).getD 0)) (fun i => (idxR a i).any fun e => e.1 == (nT a i).r) (fun i => [.mapo (mapR (idxR a i ++ [((nT a i).r, i)]))]) hlf
    (fun i _ h=>at_lett (lt h)) (fun i _ _=>look110) (fun i _ _ h=>put110 h) (fun i _ h=>up (lt h) hl) (fun i _ _ h => ?_) (fun i _ _ h => ?_) (fun j hj => ?_) ?_
  · show [Ob.mapo (mapR (if _ then _ else _))] = _
    rw [if_pos h]
  · show [Ob.mapo (mapR (if _ then _ else _))] = _
    rw [if_neg (by rw [h]; simp)]
  · unfold f92_o0
    rw [decide_eq_true (by omega)]
    cases (idxR a j).any fun e=>e.1 == (nT a j).r <;> rfl
  · unfold f92_o0
    rw [decide_eq_false (by omega)]
end
theorem callv_fresh {X:Ext} {call:Caller} {f:FuncId} {vs:List AV} {r:AV} {s:List Ob} (h1:X.pureFn f=none) (h2:X.stFn f=none) (hl:AV.ltAll 0 vs=true) (h:call f vs [] 0=some (r,s)) (hp:r.pure=false):callv X call false f vs [] 0=some (unfr r,s):=by
  unfold callv
  rw [h1,h2]
  simp only [hl,if_true,h,hp,Bool.false_eq_true,if_false,freshRes]
section
variable [Fixed] {X:Ext}
theorem call91 (hX:ExtOk Tryd.prog X) (hL:XL X) (n:Int):CallAt Tryd.prog 91 [aR.enc n] [] 0 (aB.enc (validR n)) []:=by
  have hC:=callerOf_ok (SpecOk.none' (P:=Tryd.prog))
  have M:=f91_P0 n X (callerOf fun _ _=>none) 0
  have hq : f91_q0 n = if validR n then 0 else 1 := by
    unfold f91_q0 validR
    cases decide (0 ≤ n) <;> cases decide (n < 55296) <;> cases decide (57343 < n) <;> cases decide (n ≤ 1114111) <;> rfl
  cases h:validR n with
  | true=>exact run_res (B:=aB) hX hC (hL.dom 91 rfl rfl) Tryd.func91 (by kernel_rfl) (M.1 (by rw [hq,h]; rfl)) rfl
  | false=>exact run_res (B:=aB) hX hC (hL.dom 91 rfl rfl) Tryd.func91 (by kernel_rfl) (M.2 (by rw [hq,h]; rfl)) rfl
def V70:Go.Vm.Spec:=Go.Vm.Spec.on (fun _ _=>none) 91 (s1 aR aB validR fun _=>True)
theorem V70_ok (hX:ExtOk Tryd.prog X) (hL:XL X):SpecOk Tryd.prog V70:=SpecOk.s1 SpecOk.none' fun n _=>call91 hX hL n
theorem idx_call (hL:XL X) {T:Go.Vm.Spec} {a:List Lett} {lf:Nat} (hl:a.length ≤ big) (hlf:a.length < lf) (hT:T 92 [lettsV a]=none):callv X (vcallL Tryd.prog X T lf 1) false 92 [lettsV a] [] 0=some (.map 0,[.mapo (mapR (idxR a a.length))]):=by
  obtain ⟨a1,a2,a3⟩:=hL.ok 92 rfl
  refine callv_fresh (r := .map 0) a1 a2 ?_ ?_ rfl
  · have := aTs.lt a
    show (AV.lt 0 (lettsV a) && true)=true
    rw [show AV.lt 0 (lettsV a)=true from this]
    rfl
  · have hb : Tryd.f92.body = some (codeOf Tryd.f92) := by kernel_rfl
    simp only [vcallL,callerOf,hT,hL.dom 92 rfl rfl,if_true,Tryd.func92,hb]
    rw [hL.fg 92]
    exact indices92 hl hlf
/-- alphabet.Valid. -/
theorem call70 (hX:ExtOk Tryd.prog X) (hL:XL X) {a:List Lett} (hl:a.length ≤ big):CallAt Tryd.prog 70 [aTs.enc a] [] 0 (aB.enc (alphaF a)) []:=by
  have hC:=vcallL_ok hX (V70_ok hX hL) (a.length + 1) 1
  have hb:Tryd.f70.body=some (codeOf Tryd.f70):=by kernel_rfl
  by_cases h1:(a.length:Int) < 1
  · have : alphaF a = false := by
      unfold alphaF
      rw [decide_eq_false (by omega)]
      rfl
    rw [this]
    exact run_res (B:=aB) hX hC (hL.dom 70 rfl rfl) Tryd.func70 hb (f70_pt a X _ (a.length + 1) (decide_eq_true h1)) rfl
  by_cases h2:(a.length:Int) > 64
  · have : alphaF a = false := by
      unfold alphaF
      rw [decide_eq_true (show 1 ≤ a.length by omega),decide_eq_false (by omega)]
      rfl
    rw [this]
    exact run_res (B:=aB) hX hC (hL.dom 70 rfl rfl) Tryd.func70 hb (f70_pft a X _ (a.length + 1) (decide_eq_false h1) (decide_eq_true h2)) rfl
  have hbase : alphaF a = (a.all goodL && decide ((idxR a a.length).length = a.length)) := by
    unfold alphaF
    rw [decide_eq_true (show 1 ≤ a.length by omega),decide_eq_true (show a.length ≤ 64 by omega)]
    rfl
  have h91 : ∀ n : Int, callv X (vcallL Tryd.prog X V70 (a.length + 1) 1) false 91 [i3 n] [] 0 = some (bo (validR n), []) := fun n => by
    obtain ⟨a1,a2,a3⟩:=hL.ok 91 rfl
    exact call_onL (B:=aB) (y:=validR n) a1 a2 a3 rfl (s1_at (A:=aR) (B:=aB) (g:=validR) (ok:=fun _=>True) trivial)
  have lt:∀ {i:Nat},decide ((i:Int) < (a.length:Int))=true→i < a.length:=fun h=>by have:=of_decide_eq_true h; omega
  have M := fun n hn hz => f70_M a X (vcallL Tryd.prog X V70 (a.length + 1) 1) (a.length + 1) n (fun i => (nT a i).r) (fun i => (nT a i).c) (fun i => tT a i) (fun i => validR (nT a i).r) hn
    (fun i _ h=>at_lett (lt h)) (fun i _ _ _=>h91 _) (fun i _ h=>up (lt h) hl) hz
  have hz : ∀ j, j < a.length → goodL (nT a j) = true → f70_o0 a j (nT a j).r (validR (nT a j).r) = 0 := fun j hj hg => by
    unfold f70_o0
    rw [decide_eq_true (by omega)]
    unfold goodL at hg
    rw [Bool.and_eq_true,Bool.not_eq_true'] at hg
    simp only [hg.1,hg.2]
  rcases first_fail (p:=fun j=>goodL (nT a j)=true) a.length with hall | ⟨k,hk,hbad,hbef⟩
  · have ha : a.all goodL = true := all_nth.2 hall
    rw [hbase,ha,Bool.true_and]
    have m:=M a.length (Nat.lt_succ_self _) fun j hj=>hz j hj (hall j hj)
    have ho : f70_o0 a a.length (nT a a.length).r (validR (nT a a.length).r) = 2 := by
      unfold f70_o0
      rw [decide_eq_false (by omega)]
    have hi:=idx_call (X:=X) (T:=V70) (lf:=a.length + 1) hL hl (Nat.lt_succ_self _) rfl
    have hlen:(mapR (idxR a a.length)).length=(idxR a a.length).length:=List.length_map ..
    by_cases e:(idxR a a.length).length=a.length
    · rw [decide_eq_true e]
      exact run_res (B:=aB) hX hC (hL.dom 70 rfl rfl) Tryd.func70 hb (m.2.2.1 ho (decide_eq_false h1) (decide_eq_false h2) hi (by rw [hlen,e]; simp)) rfl
    · rw [decide_eq_false e]
      exact run_res (B:=aB) hX hC (hL.dom 70 rfl rfl) Tryd.func70 hb (m.2.2.2 ho (decide_eq_false h1) (decide_eq_false h2) hi (by rw [hlen]; exact beq_eq_false_iff_ne.2 (by omega))) rfl
  · have ha : a.all goodL = false := by
      rw [Bool.eq_false_iff]
      intro hc
      exact hbad (all_nth.1 hc k hk)
    rw [hbase,ha,Bool.false_and]
    have m:=M k (by omega) fun j hj=>hz j (by omega) (hbef j hj)
    have ho : f70_o0 a k (nT a k).r (validR (nT a k).r) = 1 := by
      unfold f70_o0
      rw [decide_eq_true (by omega)]
      unfold goodL at hbad
      cases h1:decide ((nT a k).r ≤ 32) with
      | true=>simp only
      | false =>
        rw [h1] at hbad
        simp only [Bool.not_false,Bool.true_and,Bool.not_eq_true] at hbad
        simp only [hbad]
    exact run_res (B:=aB) hX hC (hL.dom 70 rfl rfl) Tryd.func70 hb (m.1 ho (decide_eq_false h1) (decide_eq_false h2)) rfl
end
end Go.Proofs.Lex
end
/- Lexicon: words over an alphabet, told. -/
section
open Go Go.Vm Go.Proofs
namespace Go.Proofs.Lex
/-- The k-th letter of a string. -/
def rnS (s:ByteArray) (k:Nat):Int:=((Utf8.decode s (posR s k)).1:Int)
def okK (a:List Lett) (s:ByteArray) (k:Nat):Prop:=posR s k < s.size∧hasR a (rnS s k)=true
def wordW (a:List Lett) (s:ByteArray):Nat→Nat→Bool
  | 0,_=>false
  | n + 1,k=>if posR s k < s.size then (if hasR a (rnS s k) then wordW a s n (k + 1) else false) else decide ((k:Int) ≤ 40)
/-- Whether a string is a word. -/
def isWordF (a:List Lett) (s:ByteArray):Bool:=Lib.validD s.data.toList && wordW a s (s.size + 1) 0
theorem word_run (a:List Lett) (s:ByteArray):∀ (d j m:Nat),(∀ i,j ≤ i→i < j + d→okK a s i)→wordW a s (m + d) j=wordW a s m (j + d)
  | 0,j,m,_=>rfl
  | d + 1, j, m, h => by
    obtain ⟨h1,h2⟩:=h j (Nat.le_refl _) (by omega)
    show (if posR s j < s.size then (if hasR a (rnS s j) then wordW a s (m + d) (j + 1) else false) else decide ((j:Int) ≤ 40))=_
    rw [if_pos h1,if_pos h2,word_run a s d (j + 1) m fun i hi1 hi2=>h i (by omega) (by omega)]
    congr 1
    omega
theorem pos_ge (s:ByteArray):∀ k,(∀ j,j < k→posR s j < s.size)→k ≤ posR s k
  | 0,_=>Nat.le_refl _
  | k + 1, h => by
    have ih:=pos_ge s k fun j hj=>h j (by omega)
    have:=decode_pos s (posR s k) (h k (by omega))
    show k + 1 ≤ posR s k + (Utf8.decode s (posR s k)).2
    omega
theorem pos_le {s:ByteArray} {k:Nat} (h:∀ j,j < k→posR s j < s.size):k ≤ s.size:=by
  cases k with
  | zero=>exact Nat.zero_le _
  | succ k =>
    have:=pos_ge s k fun j hj=>h j (by omega)
    have:=h k (by omega)
    omega
theorem word_at {a:List Lett} {s:ByteArray} {k:Nat} (h:∀ j,j < k→okK a s j):wordW a s (s.size + 1) 0=wordW a s (s.size - k + 1) k:=by
  have hk:=pos_le fun j hj=>(h j hj).1
  have:=word_run a s k 0 (s.size - k + 1) fun i _ hi=>h i (by omega)
  rw [Nat.zero_add] at this
  rw [← this]
  congr 1
  omega
theorem word_end {a:List Lett} {s:ByteArray} {k:Nat} (h:∀ j,j < k→okK a s j) (he : ¬ posR s k < s.size):wordW a s (s.size + 1) 0=decide ((k:Int) ≤ 40):=by
  rw [word_at h]
  show (if _ then _ else _)=_
  rw [if_neg he]
theorem word_bad {a:List Lett} {s:ByteArray} {k:Nat} (h:∀ j,j < k→okK a s j) (he:posR s k < s.size) (hb:hasR a (rnS s k)=false):wordW a s (s.size + 1) 0=false:=by
  rw [word_at h]
  show (if _ then (if _ then _ else _) else _)=_
  rw [if_pos he,if_neg (by rw [hb]; simp)]
/-- .. and utf8.ValidString is told. -/
structure XV [Fixed] (X:Ext):Prop extends XM X where
  valid:X.pureFn 93=some validFn
/-! ### the walk -/
def rgF (fn:Func) (k:Nat):Code := .region k (opsF fn k) false
def bodyC (fn:Func):Code := .block 1 (.seq (rgF fn 6) (.seq (.seq (rgF fn 7) (.seq (rgF fn 8) (.cond (.tmp 28) (.seq (rgF fn 9) .ret) .skip))) (rgF fn 10)))
def wordC (fn:Func):Code := .seq (rgF fn 0) (.seq (.seq (rgF fn 1) (.cond (.tmp 13) (.seq (rgF fn 2) .ret) .skip)) (.seq (rgF fn 3) (.seq (.seq (rgF fn 4) (.block 0 (.loop (.seq (rgF fn 5) (.seq (.cond (.tmp 19) .skip (.exit 0)) (bodyC fn)))))) (.seq (rgF fn 11) .ret))))
theorem body71:Tryd.f71.body=some (wordC Tryd.f71):=by kernel_rfl
def dk71:List Nat:=[8,9,10,18,19,20,21,22,23,24,25,26,27,28,29,30]
def A71 (a:List Lett) (s:ByteArray):St:=stOf 33 [] [(0,lettsV a),(1,st s),(4,bo false)] []
def B71 (a:List Lett) (s:ByteArray):St:=stOf 33 [] [(0,lettsV a),(1,st s),(4,bo false),(11,st s),(12,bo true),(13,bo false)] []
def C71 (a:List Lett) (s:ByteArray) (M:List (AV × AV)):St:=stOf 33 [] [(0,lettsV a),(1,st s),(4,bo false),(5,.map 0),(6,i6 0),(11,st s),(12,bo true),(13,bo false),(14,lettsV a),(15,.map 0)] [.mapo M]
def D71 (a:List Lett) (s:ByteArray) (M:List (AV × AV)):St:=stOf 33 [] [(0,lettsV a),(1,st s),(4,bo false),(5,.map 0),(6,i6 0),(11,st s),(12,bo true),(13,bo false),(14,lettsV a),(15,.map 0),(16,st s)] [.mapo M]
def F71 (a:List Lett) (s:ByteArray) (M:List (AV × AV)) (n:Int) (r:Nat):St:=stOf 33 dk71 [(0,lettsV a),(1,st s),(4,bo false),(5,.map 0),(6,i6 n),(11,st s),(12,bo true),(13,bo false),(14,lettsV a),(15,.map 0),(16,st s),(17,ptrV r)] [.mapo M]
def G71 (a:List Lett) (s:ByteArray) (M:List (AV × AV)) (n:Int) (r:Nat) (p:Nat) (z:Int):St:=⟨setN (setN (F71 a s M n r).tmps 18 (.tup [bo true,i6 p,i3 z])) 19 (bo true),(F71 a s M n r).st⟩
section
variable {X:Ext} {call:Caller} {lf:Nat}
theorem r71_0 (a:List Lett) (s:ByteArray):vexec Tryd.prog X call lf 0 noFg (rgF Tryd.f71 0) (stOf 33 [] [(0,lettsV a),(1,st s)] [])=some (.normal,A71 a s):=by show _=_; kernel_rfl
theorem r71_1 (a:List Lett) (s:ByteArray) (h:callv X call false 93 [st s] [] 0=some (bo true,[])):vexec Tryd.prog X call lf 0 noFg (.seq (rgF Tryd.f71 1) (.cond (.tmp 13) (.seq (rgF Tryd.f71 2) .ret) .skip)) (A71 a s)=some (.normal,B71 a s) :=
  around_sound (ans:=[(2,Ans.v (bo true))]) (by kernel_rfl) (And.intro h trivial)
theorem r71_3 (a:List Lett) (s:ByteArray) (M:List (AV × AV)) (h:callv X call false 92 [lettsV a] [] 0=some (.map 0,[.mapo M])):vexec Tryd.prog X call lf 0 noFg (rgF Tryd.f71 3) (B71 a s)=some (.normal,C71 a s M) :=
  around_sound (ans:=[(2,Ans.c (.map 0) [.mapo M])]) (by kernel_rfl) (And.intro h trivial)
theorem r71_bt (a:List Lett) (s:ByteArray) (M:List (AV × AV)) (n:Int) (r p:Nat) (z q:Int) (h:keep [.mapo M] (lookupv Tryd.prog 110 [.mapo M] (.map 0) (i3 z) true)=some (.tup [i6 q,bo true],[.mapo M])) :
    ∃ T,vexec Tryd.prog X call lf 0 noFg (bodyC Tryd.f71) (G71 a s M n r p z)=some (.normal,T)∧forget dk71 T=F71 a s M (w6 (n + 1)) r :=
  ⟨stOf 33 [] [(0,lettsV a),(1,st s),(5,.map 0),(11,st s),(12,bo true),(13,bo false),(14,lettsV a),(15,.map 0),(16,st s),(17,ptrV r),(4,bo false),(6,i6 (w6 (n + 1))),(8,i3 z),(9,i6 q),(10,bo true),(18,.tup [bo true,i6 p,i3 z]),(19,bo true),(20,i3 z),(21,.tup [i6 q,bo true]),(22,.map 0),(23,i3 z),(24,.tup [i6 q,bo true]),(25,i6 q),(26,bo true),(27,bo true),(28,bo false),(29,i6 n),(30,i6 (w6 (n + 1)))] [.mapo M],around_sound (ans:=[(6,Ans.v (.tup [i6 q,bo true]))]) (by kernel_rfl) (And.intro h trivial),by show _=_; kernel_rfl⟩
theorem r71_bf (a:List Lett) (s:ByteArray) (M:List (AV × AV)) (n:Int) (r p:Nat) (z q:Int) (h:keep [.mapo M] (lookupv Tryd.prog 110 [.mapo M] (.map 0) (i3 z) true)=some (.tup [i6 q,bo false],[.mapo M])) :
    ∃ T,vexec Tryd.prog X call lf 0 noFg (bodyC Tryd.f71) (G71 a s M n r p z)=some (.ret,T)∧nth T.tmps 4=bo false :=
  ⟨stOf 33 [29,30] [(0,lettsV a),(1,st s),(5,.map 0),(11,st s),(12,bo true),(13,bo false),(14,lettsV a),(15,.map 0),(16,st s),(17,ptrV r),(4,bo false),(6,i6 n),(8,i3 z),(9,i6 q),(10,bo false),(18,.tup [bo true,i6 p,i3 z]),(19,bo true),(20,i3 z),(21,.tup [i6 q,bo false]),(22,.map 0),(23,i3 z),(24,.tup [i6 q,bo false]),(25,i6 q),(26,bo false),(27,bo false),(28,bo true)] [.mapo M],around_sound (ans:=[(6,Ans.v (.tup [i6 q,bo false]))]) (by kernel_rfl) (And.intro h trivial),by show _=_; kernel_rfl⟩
theorem r71_11 (a:List Lett) (s:ByteArray) (M:List (AV × AV)) (n:Int) (r:Nat) :
    ∃ T,vexec Tryd.prog X call lf 0 noFg (.seq (rgF Tryd.f71 11) .ret) ⟨setN (setN (F71 a s M n r).tmps 18 (.tup [bo false])) 19 (bo false),(F71 a s M n r).st⟩=some (.ret,T)∧nth T.tmps 4=bo (decide (n ≤ 40)) :=
  ⟨stOf 33 [8,9,10,20,21,22,23,24,25,26,27,28,29,30] [(0,lettsV a),(1,st s),(5,.map 0),(11,st s),(12,bo true),(13,bo false),(14,lettsV a),(15,.map 0),(16,st s),(17,ptrV r),(4,bo (decide (n ≤ 40))),(6,i6 n),(18,.tup [bo false]),(19,bo false),(31,i6 n),(32,bo (decide (n ≤ 40)))] [.mapo M],by show _=_; kernel_rfl,by show _=_; kernel_rfl⟩
theorem ops71_4:(opsF Tryd.f71 4).toList=[opF Tryd.f71 4 0] ++ [opF Tryd.f71 4 1]:=by kernel_rfl
theorem ops71_5:(opsF Tryd.f71 5).toList=[opF Tryd.f71 5 0,opF Tryd.f71 5 1]:=by kernel_rfl
theorem f71_bad (a:List Lett) (s:ByteArray) (h:callv X call false 93 [st s] [] 0=some (bo false,[])):vbody Tryd.prog X call lf noFg Tryd.f71 (codeOf Tryd.f71) [lettsV a,st s] [] 0=some (bo false,[]) :=
  along_sound (ans:=[(4,Ans.v (bo false))]) (by kernel_rfl) (And.intro h trivial)
end
section
variable [Fixed] {X:Ext}
theorem run71 (hX:ExtOk Tryd.prog X) {call:Caller} (hC:CallOk Tryd.prog call) (a:List Lett) (s:ByteArray) (hs:s.size ≤ big) :
    RunAt Tryd.prog X call 0 [] (opsF Tryd.f71 4) (opsF Tryd.f71 5) (bodyC Tryd.f71) 19 (C71 a s (mapR (idxR a a.length))) s dk71 (fun k r => F71 a s (mapR (idxR a a.length)) k r) 18 (fun k => ∀ j, j < k → okK a s j)
      (fun T=>nth T.tmps 4=bo false∧∃ k,(∀ j,j < k→okK a s j)∧posR s k < s.size∧hasR a (rnS s k)=false):=by
  generalize hM:mapR (idxR a a.length)=M
  refine ⟨⟨[opF Tryd.f71 4 0],opF Tryd.f71 4 1,9,.tmp 16,D71 a s M,17,opF Tryd.f71 5 0,opF Tryd.f71 5 1,ops71_4,?_,by kernel_rfl,by kernel_rfl,by kernel_rfl,Tryd.underlying9,?_,ops71_5,by kernel_rfl,by kernel_rfl,by kernel_rfl,by kernel_rfl,by kernel_rfl,by kernel_rfl,?_,?_,?_⟩,fun j hj=>absurd hj (Nat.not_lt_zero _),?_⟩
  · show _=_; kernel_rfl
  · show _=_; kernel_rfl
  · intro r; show _=_; kernel_rfl
  · intro k r; show _=_; kernel_rfl
  · intro k r
    have:(F71 a s M k r).tmps.length=33:=by show _=_; kernel_rfl
    exact ⟨by rw [this]; decide,by rw [this]; decide⟩
  · intro k r hI hpos
    have hk:=pos_ge s k fun j hj=>(hI j hj).1
    have hlook:=look110 (l:=idxR a a.length) (r:=rnS s k)
    rw [hM] at hlook
    cases hb:hasR a (rnS s k) with
    | true =>
      rw [show ((idxR a a.length).any fun e=>e.1 == rnS s k)=true from hb] at hlook
      obtain ⟨T,h1,h2⟩:=r71_bt (X:=X) (call:=call) (lf:=0) a s M (k:Int) r (posR s k) (rnS s k) _ hlook
      refine (SR.exec hX hC (lf:=0) (fg:=noFg) (by kernel_rfl) h1).mono ?_
      rintro x T' ⟨rfl,rfl⟩
      refine .inl ⟨rfl,fun j hj => ?_,?_⟩
      · by_cases e : j = k
        · subst e; exact ⟨hpos,hb⟩
        · exact hI j (by omega)
      · rw [h2,← up (i:=k) (n:=s.size) (by omega) hs]
    | false =>
      rw [show ((idxR a a.length).any fun e=>e.1 == rnS s k)=false from hb] at hlook
      obtain ⟨T,h1,h2⟩:=r71_bf (X:=X) (call:=call) (lf:=0) a s M (k:Int) r (posR s k) (rnS s k) _ hlook
      refine (SR.exec hX hC (lf:=0) (fg:=noFg) (by kernel_rfl) h1).mono ?_
      rintro x T' ⟨rfl,rfl⟩
      exact .inr ⟨rfl,h2,k,hI,hpos,hb⟩
theorem vend71 (T:St) (b:Bool) (h:nth T.tmps 4=bo b):vend Tryd.prog Tryd.f71 [] 0 T=some (bo b,T.st):=by
  have hr:resultsv Tryd.prog T Tryd.f71.results.toList=some [nth T.tmps 4]:=by kernel_rfl
  unfold vend
  rw [hr,h]
  exact vend1_plain rfl
/-- alphabet.IsWord. -/
theorem call71 (hX:ExtOk Tryd.prog X) (hM:XV X) {a:List Lett} {s:ByteArray} (hl:a.length ≤ big) (hs:s.size ≤ big):CallAt Tryd.prog 71 [aTs.enc a,aS.enc s] [] 0 (aB.enc (isWordF a s)) []:=by
  have hL:=hM.toXM.toXL
  have hC:=vcallL_ok hX (SpecOk.none' (P:=Tryd.prog)) (a.length + 1) 1
  have h93 : ∀ b, Lib.validD s.data.toList = b → callv X (vcallL Tryd.prog X (fun _ _ => none) (a.length + 1) 1) false 93 [st s] [] 0 = some (bo b, []) := fun b hb => by
    refine call_pure hM.valid rfl rfl rfl ?_
    unfold validFn
    have hs' : s.size ≤ 140737488355328:=hs
    rw [← hb]
    exact if_pos (by omega)
  unfold isWordF
  cases hv:Lib.validD s.data.toList with
  | false=>exact run_res (B:=aB) hX hC (hL.dom 71 rfl rfl) Tryd.func71 (by kernel_rfl) (f71_bad (lf:=0) a s (h93 false hv)) rfl
  | true =>
    rw [Bool.true_and]
    refine call_rel (B:=aB) (fn:=Tryd.f71) (c:=wordC Tryd.f71) (R:=fun x T=>x = .ret∧nth T.tmps 4=bo (wordW a s (s.size + 1) 0)) Tryd.func71 body71 (of_decide_eq_false (by kernel_rfl)) ?_ ?_
    · refine SR.seq (SR.exec hX hC (lf := 0) (fg := noFg) (by kernel_rfl) (r71_0 a s)) (fun T hT => ?_) (fun z T hz hh => absurd hh.1 hz)
      obtain ⟨-,rfl⟩:=hT
      refine SR.seq (SR.exec hX hC (lf:=0) (fg:=noFg) (by kernel_rfl) (r71_1 a s (h93 true hv))) (fun T hT => ?_) (fun z T hz hh=>absurd hh.1 hz)
      obtain ⟨-,rfl⟩:=hT
      refine SR.seq (SR.exec hX hC (lf:=0) (fg:=noFg) (by kernel_rfl) (r71_3 a s _ (idx_call hL hl (Nat.lt_succ_self _) rfl))) (fun T hT => ?_) (fun z T hz hh=>absurd hh.1 hz)
      obtain ⟨-,rfl⟩:=hT
      refine SR.seq (SR.rangeS hX hC (run71 hX hC a s hs)) (fun T hT => ?_) (fun z T hz hh => ?_)
      · rcases hT with ⟨-, k, r, hI, hpos, rfl⟩ | ⟨h, -⟩
        · obtain ⟨T', h1, h2⟩ := r71_11 (X := X) (call := vcallL Tryd.prog X (fun _ _ => none) (a.length + 1) 1) (lf := 0) a s (mapR (idxR a a.length)) (k : Int) r
          refine (SR.exec hX hC (lf:=0) (fg:=noFg) (by kernel_rfl) h1).mono ?_
          rintro x T'' ⟨rfl,rfl⟩
          exact ⟨rfl,by rw [h2,word_end hI hpos]⟩
        · cases h
      · rcases hh with ⟨h, -⟩ | ⟨rfl, h4, k, hI, hpos, hb⟩
        · exact absurd h hz
        · exact ⟨rfl,by rw [h4,word_bad hI hpos hb]⟩
    · rintro x T ⟨rfl, h4⟩
      exact ⟨.inr rfl,bo _,T.st,vend71 T _ h4,rfl⟩
end
end Go.Proofs.Lex
end
/- Lexicon: Merge told; the law. -/
section
open Go Go.Vm Go.Proofs
namespace Go.Proofs.Lex
section
variable [Fixed] {X:Ext}
theorem put58e (c:ByteArray) (l:List ByteArray):unit1 (mapUpdatev Tryd.prog 58 [.mapo (esOf l)] 0 (.map 0) (st c) (bo true))=some (.undef,[.mapo (esOf (putS l c))]):=put58 c l
end
end Go.Proofs.Lex
end
/- Lexicon: the small functions of the reference: a field, a word, a byte's place. -/
section
open Go Go.Vm Go.Proofs
namespace Go.Proofs.Lex
section
variable {X:Ext} {call:Caller} {lf:Nat}
end
section
variable [Fixed] {X:Ext}
end
end Go.Proofs.Lex
end
/- Lexicon: the reference texts, walked (printed) -/
section
open Go Go.Vm Go.Proofs
namespace Go.Proofs.Lex
end Go.Proofs.Lex
end
/- Lexicon: the reference's text of a record. -/
section
open Go Go.Vm Go.Proofs
namespace Go.Proofs.Lex
section
variable {X:Ext} {call:Caller} {lf:Nat}
end
section
variable [Fixed] {X:Ext}
end
end Go.Proofs.Lex
end
/- Lexicon: where the parts of a text lie; its parts cut at the equals sign. -/
section
open Go Go.Vm Go.Proofs
namespace Go.Proofs.Lex
end Go.Proofs.Lex
end
/- Lexicon: the reference's Parse of a record. -/
section
open Go Go.Vm Go.Proofs
namespace Go.Proofs.Lex
/-! ### the parts' text -/
/-! ### the record of a text -/
end Go.Proofs.Lex
end
/- Lexicon: the reference's Parse of a record, walked. -/
section
open Go Go.Vm Go.Proofs
namespace Go.Proofs.Lex
section
variable [Fixed] {X:Ext}
def okX (F:List Feat):Prop:=F.length ≤ big∧(textF F).length ≤ big
instance:DecidablePred okX:=fun F=>inferInstanceAs (Decidable (_∧_))
theorem emp_test {s:ByteArray} (h:s ≠ emp):(!s.toList == (ByteArray.mk #[]).toList)=true:=by
  rw [show (s.toList == (ByteArray.mk #[]).toList)=false from eqB_ne.2 h]
  rfl
theorem eq_test {s t:ByteArray} (h:s=t):(!s.toList == t.toList)=false:=by
  rw [show (s.toList == t.toList)=true from eqB_iff.2 h]
  rfl
end
end Go.Proofs.Lex
end
/- Lexicon: Valid, told. -/
section
open Go Go.Vm Go.Proofs
namespace Go.Proofs.Lex
/-- A lexeme over an alphabet, but for its ID's being new. -/
def lexO (a:List Lett) (x:Lexm):Bool:=nameL x.id && (nameL x.cat && ((decide (x.par=emp) || nameL x.par) && (isWordF a x.stem && validF x.feats)))
def idsV (L:List Lexm) (i:Nat):List ByteArray:=(L.take i).map (·.id)
def seenI (L:List Lexm) (i:Nat):Bool:=(idsV L i).any fun y=>decide (y=(nL L i).id)
def okI (a:List Lett) (L:List Lexm) (i:Nat):Bool := !seenI L i && lexO a (nL L i)
/-- What lexicon.Valid says. -/
def validLex (a:List Lett) (L:List Lexm):Bool:=alphaF a && (decide (L.length ≤ 256) && (List.range L.length).all (okI a L))
theorem ids_es (L:List Lexm) (i:Nat):idsR L i=esOf (idsV L i):=by
  unfold idsR esOf idsV
  rw [List.map_map]
  rfl
theorem ids_next {L:List Lexm} {i:Nat} (h:i < L.length) (hs:seenI L i=false):idsR L (i + 1)=esOf (putS (idsV L i) (nL L i).id):=by
  rw [ids_es]
  unfold putS
  rw [if_neg (by rw [show (idsV L i).any (fun x=>decide (x=(nL L i).id))=false from hs]; simp)]
  congr 1
  unfold idsV
  rw [List.take_succ_eq_append_getElem h,List.map_append,nL,getD_lt h]
  rfl
/-- Sizes that a machine bears. -/
structure okV (x:Lexm):Prop where
  id:okS x.id
  cat:okS x.cat
  stem:okS x.stem
  par:okS x.par
  feats:okF x.feats
section
variable [Fixed] {X:Ext}
/-- What lexicon.Valid asks. -/
def V38:Go.Vm.Spec:=(((Go.Vm.Spec.on (fun _ _=>none) 43 (s1 aS aB nameL okS)).on 45 (s1 aFs aB validF okF)).on 70 (s1 aTs aB alphaF fun a=>a.length ≤ big)).on 71 (sp2 aTs aS fun a s=>if a.length ≤ big∧s.size ≤ big then some (aB.enc (isWordF a s)) else none)
theorem V38_ok (hX:ExtOk Tryd.prog X) (hM:XV X):SpecOk Tryd.prog V38:=by
  have hL:=hM.toXM.toXL
  refine SpecOk.on2 (SpecOk.s1 (SpecOk.s1 (SpecOk.s1 SpecOk.none' fun s h=>call43 hX hL h) fun F h=>call45 hX hL h) fun a h=>call70 hX hL h) fun a s r h => ?_
  split at h
  · rename_i hh
    simp only [Option.some.injEq] at h
    subst h
    exact call71 hX hM hh.1 hh.2
  · cases h
theorem x43 (hL:XL X) {s:ByteArray} (h:okS s) (σ:List Ob):callv X (callerOf V38) false 43 [st s] σ 0=some (bo (nameL s),σ):=by
  obtain ⟨a1,a2,a3⟩:=hL.ok 43 rfl
  exact call_on (B:=aB) (T:=V38) (y:=nameL s) (vs:=[aS.enc s]) a1 a2 a3 rfl (s1_at (A:=aS) (B:=aB) (g:=nameL) (ok:=okS) h)
theorem x45 (hL:XL X) {F:List Feat} (h:okF F) (σ:List Ob):callv X (callerOf V38) false 45 [featsV F] σ 0=some (bo (validF F),σ):=by
  obtain ⟨a1,a2,a3⟩:=hL.ok 45 rfl
  exact call_on (B:=aB) (T:=V38) (y:=validF F) (vs:=[aFs.enc F]) a1 a2 a3 (by simp only [AV.ltAll,aFs.lt,Bool.and_self]) (s1_at (A:=aFs) (B:=aB) (g:=validF) (ok:=okF) h)
theorem x70 (hL:XL X) {a:List Lett} (h:a.length ≤ big) (σ:List Ob):callv X (callerOf V38) false 70 [lettsV a] σ 0=some (bo (alphaF a),σ):=by
  obtain ⟨a1,a2,a3⟩:=hL.ok 70 rfl
  exact call_on (B:=aB) (T:=V38) (y:=alphaF a) (vs:=[aTs.enc a]) a1 a2 a3 (by simp only [AV.ltAll,aTs.lt,Bool.and_self]) (s1_at (A:=aTs) (B:=aB) (g:=alphaF) (ok:=fun a=>a.length ≤ big) h)
theorem x71 (hL:XL X) {a:List Lett} {s:ByteArray} (h:a.length ≤ big) (hs:s.size ≤ big) (σ:List Ob):callv X (callerOf V38) false 71 [lettsV a,st s] σ 0=some (bo (isWordF a s),σ):=by
  obtain ⟨a1,a2,a3⟩:=hL.ok 71 rfl
  refine call_on (B:=aB) (T:=V38) (y:=isWordF a s) (vs:=[aTs.enc a,aS.enc s]) a1 a2 a3 (by simp only [AV.ltAll,aTs.lt,aS.lt,Bool.and_self]) ?_
  show sp2 aTs aS (fun a s=>if a.length ≤ big∧s.size ≤ big then some (aB.enc (isWordF a s)) else none) [aTs.enc a,aS.enc s]=_
  rw [sp2_at (aTs.de _) (aS.de _),if_pos ⟨h,hs⟩]
/-- lexicon.Valid. -/
theorem call38 (hX:ExtOk Tryd.prog X) (hM:XV X) {a:List Lett} {L:List Lexm} (ha:a.length ≤ big) (hl:L.length ≤ big) (hok:∀ x ∈ L,okV x):CallAt Tryd.prog 38 [aTs.enc a,aLs.enc L] [] 0 (aB.enc (validLex a L)) []:=by
  have hL:=hM.toXM.toXL
  have hC:=callerOf_ok (V38_ok hX hM)
  have hb:Tryd.f38.body=some (codeOf Tryd.f38):=by kernel_rfl
  have c70:=x70 (X:=X) hL ha []
  cases hal:alphaF a with
  | false =>
    rw [hal] at c70
    have:validLex a L=false:=by unfold validLex; rw [hal]; rfl
    rw [this]
    exact run_res (B:=aB) hX hC (hL.dom 38 rfl rfl) Tryd.func38 hb (f38_pf a L X _ 0 c70) rfl
  | true =>
    rw [hal] at c70
    by_cases h256:(L.length:Int) > 256
    · have : validLex a L = false := by unfold validLex; rw [hal, decide_eq_false (by omega)]; rfl
      rw [this]
      exact run_res (B:=aB) hX hC (hL.dom 38 rfl rfl) Tryd.func38 hb (f38_ptt a L X _ 0 c70 (decide_eq_true h256)) rfl
    have hbase:validLex a L=(List.range L.length).all (okI a L):=by unfold validLex; rw [hal,decide_eq_true (show L.length ≤ 256 by omega)]; rfl
    have lt:∀ {i:Nat},decide ((i:Int) < (L.length:Int))=true→i < L.length:=fun h=>by have:=of_decide_eq_true h; omega
    have ok:∀ {i:Nat},i < L.length→okV (nL L i):=fun {i} h=>hok _ (by rw [nL,getD_lt h]; exact List.getElem_mem h)
    have M := fun n hn hz => f38_M a L X (callerOf V38) (L.length + 1) n (fun i => (nL L i).id) (fun i => (nL L i).cat) (fun i => (nL L i).stem) (fun i => (nL L i).par) (fun i => (nL L i).feats.length) (fun i => (nL L i).feats.flatMap featC) (fun i => tL L i)
      (fun i=>[.mapo (esOf (putS (idsV L i) (nL L i).id))]) (fun i=>[.mapo (esOf (putS (idsV L i) (nL L i).id))]) (fun i=>seenI L i) (fun i=>nameL (nL L i).id) (fun i=>nameL (nL L i).cat) (fun i=>nameL (nL L i).par) (fun i=>isWordF a (nL L i).stem) (fun i=>validF (nL L i).feats) (fun i=>isWordF a (nL L i).stem) (fun i=>validF (nL L i).feats) hn
      (fun i _ h=>at_lex (lt h)) (fun i _ h=>by rw [ids_es]; exact look58 _ _) (fun i _ h _=>x43 hL (ok (lt h)).id _) (fun i _ h _ _=>x43 hL (ok (lt h)).cat _) (fun i _ h _ _ _ _=>x43 hL (ok (lt h)).par _)
      (fun i _ h _ _ _ _ _=>x71 hL ha (ok (lt h)).stem _) (fun i _ h _ _ _ _ _ _=>x45 hL (ok (lt h)).feats _) (fun i _ h _ _ _ _ _ _ _=>by rw [ids_es]; exact put58e _ _)
      (fun i _ h _ _ _ _=>x71 hL ha (ok (lt h)).stem _) (fun i _ h _ _ _ _ _=>x45 hL (ok (lt h)).feats _) (fun i _ h _ _ _ _ _ _=>by rw [ids_es]; exact put58e _ _)
      (fun i _ h=>up (lt h) hl) (fun i _ h hs _ _ _ _ _ _=>by rw [ids_next (lt h) hs]) (fun i _ h hs _ _ _ _ _=>by rw [ids_next (lt h) hs]) hz
    have ho : ∀ j, j < L.length → f38_o0 L j (nL L j).par (seenI L j) (nameL (nL L j).id) (nameL (nL L j).cat) (nameL (nL L j).par) (isWordF a (nL L j).stem) (validF (nL L j).feats) (isWordF a (nL L j).stem) (validF (nL L j).feats) = if okI a L j then 0 else 1 := fun j hj => by
      unfold f38_o0 okI lexO
      rw [decide_eq_true (by omega)]
      by_cases e:(nL L j).par=emp
      · rw [show (!(nL L j).par.toList == (ByteArray.mk #[]).toList) = false from eq_test e, decide_eq_true e]
        cases seenI L j <;> cases nameL (nL L j).id <;> cases nameL (nL L j).cat <;> cases isWordF a (nL L j).stem <;> cases validF (nL L j).feats <;> rfl
      · rw [show (!(nL L j).par.toList == (ByteArray.mk #[]).toList) = true from emp_test e, decide_eq_false e]
        cases seenI L j <;> cases nameL (nL L j).id <;> cases nameL (nL L j).cat <;> cases nameL (nL L j).par <;> cases isWordF a (nL L j).stem <;> cases validF (nL L j).feats <;> rfl
    rcases first_fail (p:=fun j=>okI a L j=true) L.length with hall | ⟨k,hk,hbad,hbef⟩
    · have hv : validLex a L = true := by rw [hbase, List.all_eq_true]; exact fun j hj => hall j (List.mem_range.1 hj)
      rw [hv]
      have m:=M L.length (Nat.lt_succ_self _) fun j hj=>by rw [ho j hj,if_pos (hall j hj)]
      have h2 : f38_o0 L L.length (nL L L.length).par (seenI L L.length) (nameL (nL L L.length).id) (nameL (nL L L.length).cat) (nameL (nL L L.length).par) (isWordF a (nL L L.length).stem) (validF (nL L L.length).feats) (isWordF a (nL L L.length).stem) (validF (nL L L.length).feats) = 2 := by
        unfold f38_o0
        rw [decide_eq_false (by omega)]
      exact run_res (B:=aB) hX hC (hL.dom 38 rfl rfl) Tryd.func38 hb (m.2.2.2.2.2.2.2.2 h2 c70 (decide_eq_false h256)) rfl
    · have hv : validLex a L = false := by
        rw [hbase,Bool.eq_false_iff]
        intro hc
        exact hbad (List.all_eq_true.1 hc k (List.mem_range.2 hk))
      rw [hv]
      have m:=M k (by omega) fun j hj=>by rw [ho j (by omega),if_pos (hbef j hj)]
      exact run_res (B:=aB) hX hC (hL.dom 38 rfl rfl) Tryd.func38 hb (m.1 (by rw [ho k hk,if_neg hbad]) c70 (decide_eq_false h256)) rfl
end
end Go.Proofs.Lex
end
/- Lexicon: the law of what a valid lexicon finds. -/
section
open Go Go.Vm Go.Proofs
namespace Go.Proofs.Lex
theorem valid_uniq {a:List Lett} {L:List Lexm} (h:validLex a L=true):∀ j k,j < L.length→k < L.length→(nL L j).id=(nL L k).id→j=k:=by
  have key : ∀ j k, j < k → k < L.length → (nL L j).id ≠ (nL L k).id := by
    intro j k hjk hk e
    unfold validLex at h
    simp only [Bool.and_eq_true,List.all_eq_true] at h
    have ho:=h.2.2 k (List.mem_range.2 hk)
    unfold okI at ho
    simp only [Bool.and_eq_true,Bool.not_eq_true'] at ho
    have hs : seenI L k = true := by
      unfold seenI
      rw [List.any_eq_true]
      refine ⟨(nL L j).id,?_,decide_eq_true e⟩
      refine List.mem_map.2 ⟨nL L j,?_,rfl⟩
      rw [nL,getD_lt (show j < L.length by omega)]
      exact List.mem_take_iff_getElem.2 ⟨j,by omega,rfl⟩
    rw [hs] at ho
    exact absurd ho.1 (by simp)
  intro j k hj hk e
  rcases Nat.lt_trichotomy j k with hlt | rfl | hlt
  · exact absurd e (key j k hlt hk)
  · rfl
  · exact absurd e.symm (key k j hlt hj)
theorem find_own {L:List Lexm} {x:Lexm} (hx:x ∈ L) (hu:∀ y ∈ L,y.id=x.id→y=x):findL L x.id=(x,true):=by
  unfold findL
  cases h:L.find? fun y=>decide (y.id=x.id) with
  | none=>exact absurd (decide_eq_true rfl) (List.find?_eq_none.1 h x hx)
  | some y =>
    have h1:=List.find?_some h
    have h2:=List.mem_of_find?_eq_some h
    rw [hu y h2 (of_decide_eq_true h1)]
theorem okLs_sub {L:List Lexm} {p:Lexm→Bool} (h:okLs L):okLs (L.filter p) :=
  ⟨Nat.le_trans (Nat.mul_le_mul_right _ (List.length_filter_le ..)) h.1,fun x hx=>h.2 x (List.mem_filter.1 hx).1⟩
section
variable [Fixed] {X:Ext}
/-- What the law asks. -/
def V12 (a0:List Lett) (L0:List Lexm):Go.Vm.Spec:=(((((TB.on 38 (sp2 aTs aLs fun a L=>if a=a0∧L=L0 then some (aB.enc (validLex a L)) else none)).on 17 (sp2 aLs aS fun L s=>if okLsB L=true then some (aLs.enc (L.filter fun x=>decide (x.cat=s))) else none)).on 33 (sp2 aLs aS fun L s=>if okLsB L=true then some (aLs.enc (L.filter fun x=>decide (x.stem=s))) else none)).on 26 (sp2 aLs aS fun L s=>if okLsB L=true then some (aLB.enc (findL L s)) else none)).on 28 (sp2 aLs aS fun L s=>if okLsB L=true then some (aI.enc (idxP (fun x=>decide (x.id=s)) L)) else none)).on 25 (sp2 aL aL fun x y=>if x.feats.length ≤ big then some (aB.enc (decide (x=y))) else none)
theorem on_cond {α β:Type} {p:Prop} [Decidable p] {x r:AV} {Q:AV→Prop} (h:(if p then some x else none)=some r) (hq:p→Q x):Q r:=by
  split at h
  · rename_i hp
    simp only [Option.some.injEq] at h
    exact h ▸ hq hp
  · cases h
theorem V12_ok (hX:ExtOk Tryd.prog X) (hM:XV X) (h14:CallAt Tryd.prog 14 [] [] 0 (bo true) []) {a0:List Lett} {L0:List Lexm} (ha:a0.length ≤ big) (hl:L0.length ≤ big) (hok:∀ x ∈ L0,okV x):SpecOk Tryd.prog (V12 a0 L0):=by
  have hL:=hM.toXM.toXL
  refine SpecOk.on2 (SpecOk.on2 (SpecOk.on2 (SpecOk.on2 (SpecOk.on2 (SpecOk.on2 (TB_ok hX hL h14) fun a L r h => ?_) fun L s r h => ?_) fun L s r h => ?_) fun L s r h => ?_) fun L s r h => ?_) fun x y r h => ?_
  · exact on_cond (α:=Nat) (β:=Nat) (Q:=fun r=>CallAt Tryd.prog 38 [aTs.enc a,aLs.enc L] [] 0 r []) h fun ⟨e1,e2⟩=>by subst e1 e2; exact call38 hX hM ha hl hok
  · exact on_cond (α:=Nat) (β:=Nat) (Q:=fun r=>CallAt Tryd.prog 17 [aLs.enc L,aS.enc s] [] 0 r []) h fun e=>call17 hX hL (okLsB_iff.1 e)
  · exact on_cond (α:=Nat) (β:=Nat) (Q:=fun r=>CallAt Tryd.prog 33 [aLs.enc L,aS.enc s] [] 0 r []) h fun e=>call33 hX hL (okLsB_iff.1 e)
  · exact on_cond (α:=Nat) (β:=Nat) (Q:=fun r=>CallAt Tryd.prog 26 [aLs.enc L,aS.enc s] [] 0 r []) h fun e=>call26 hX hL (okLsB_iff.1 e)
  · exact on_cond (α:=Nat) (β:=Nat) (Q:=fun r=>CallAt Tryd.prog 28 [aLs.enc L,aS.enc s] [] 0 r []) h fun e=>call28 hX hL (okLs_len (okLsB_iff.1 e))
  · exact on_cond (α:=Nat) (β:=Nat) (Q:=fun r=>CallAt Tryd.prog 25 [aL.enc x,aL.enc y] [] 0 r []) h fun e=>call25 hX hL e
/-- A told call on two arguments. -/
theorem on_two {α β γ:Type} {A:Arg α} {B:Arg β} {D:Arg γ} {T:Go.Vm.Spec} {f:FuncId} {g:α→β→Option AV} {x:α} {y:β} {z:γ} (hL:XL X) (hw:lexW f=true) (hT:T f [A.enc x,B.enc y]=sp2 A B g [A.enc x,B.enc y]) (hg:g x y=some (D.enc z)) (dr:Bool) (σ:List Ob):callv X (callerOf T) dr f [A.enc x,B.enc y] σ 0=some (D.enc z,σ):=by
  obtain ⟨a1,a2,a3⟩:=hL.ok f hw
  refine call_on (B:=D) (T:=T) (y:=z) a1 a2 a3 (by simp only [AV.ltAll,A.lt,B.lt,Bool.and_self]) ?_
  rw [hT,sp2_at (A.de _) (B.de _),hg]
variable (hX:ExtOk Tryd.prog X) (hM:XV X) (h14:CallAt Tryd.prog 14 [] [] 0 (bo true) [])
include hX hM h14
theorem law12a {a:List Lett} {L:List Lexm} {i:Int} (ha:a.length ≤ big) (hl:L.length ≤ big) (hok:∀ x ∈ L,okV x):CallAt Tryd.prog 12 [aTs.enc a,aLs.enc L,aI.enc i] [] 0 (aB.enc true) []:=by
  have hL:=hM.toXM.toXL
  have hb:Tryd.f12.body=some (codeOf Tryd.f12):=by kernel_rfl
  have c15 : ∀ {T : Go.Vm.Spec} {b : Bool} (_ : T 15 [lexsV L] = some (bo b)) (σ : List Ob), callv X (callerOf T) false 15 [lexsV L] σ 0 = some (bo b, σ) := fun {T b} h σ => by
    obtain ⟨a1,a2,a3⟩:=hL.ok 15 rfl
    refine call_on (B:=aB) (T:=T) (y:=b) (vs:=[aLs.enc L]) a1 a2 a3 (by simp only [AV.ltAll,aLs.lt,Bool.and_self]) h
  have t15:TB 15 [lexsV L]=some (bo (fewL L)):=s1_at (A:=aLs) (B:=aB) (g:=fewL) (ok:=fun L=>L.length ≤ big) hl
  have o14 : ∀ {T : Go.Vm.Spec} (_ : T 14 [] = some (bo true)) (σ : List Ob), callv X (callerOf T) false 14 [] σ 0 = some (bo true, σ) := fun {T} h σ => by
    obtain ⟨a1,a2,a3⟩:=hL.ok 14 rfl
    exact call_on (B:=aB) (y:=true) a1 a2 a3 rfl h
  cases hf:fewL L with
  | false =>
    rw [hf] at t15
    exact run_res (B:=aB) hX (callerOf_ok (TB_ok hX hL h14)) (hL.dom 12 rfl rfl) Tryd.func12 hb (f12_ptt a L i true X (callerOf TB) 0 (f12_g1_tf a L i X (callerOf TB) 0 (o14 rfl _) (c15 t15 _)) rfl (o14 rfl _)) rfl
  | true =>
    rw [hf] at t15
    by_cases h0:i < 0
    · exact run_res (B:=aB) hX (callerOf_ok (TB_ok hX hL h14)) (hL.dom 12 rfl rfl) Tryd.func12 hb (f12_ptt a L i true X (callerOf TB) 0 (f12_g1_ttt a L i X (callerOf TB) 0 (o14 rfl _) (c15 t15 _) (decide_eq_true h0)) rfl (o14 rfl _)) rfl
    obtain ⟨k,rfl⟩:=Int.eq_ofNat_of_zero_le (show 0 ≤ i by omega)
    by_cases h1:(k:Int) ≥ (L.length:Int)
    · exact run_res (B:=aB) hX (callerOf_ok (TB_ok hX hL h14)) (hL.dom 12 rfl rfl) Tryd.func12 hb (f12_ptt a L k true X (callerOf TB) 0 (f12_g1_ttft a L k X (callerOf TB) 0 (o14 rfl _) (c15 t15 _) (decide_eq_false h0) (decide_eq_true h1)) rfl (o14 rfl _)) rfl
    have hk:k < L.length:=by omega
    have hC:=callerOf_ok (V12_ok hX hM h14 ha hl hok)
    have d15:V12 a L 15 [lexsV L]=some (bo true):=t15
    have c38:callv X (callerOf (V12 a L)) false 38 [lettsV a,lexsV L] [] 0=some (bo (validLex a L),[]):=on_two (A:=aTs) (B:=aLs) (D:=aB) (T:=V12 a L) (z:=validLex a L) hL rfl rfl (if_pos ⟨rfl,rfl⟩) _ _
    cases hv:validLex a L with
    | false =>
      rw [hv] at c38
      exact run_res (B:=aB) hX hC (hL.dom 12 rfl rfl) Tryd.func12 hb (f12_ptt a L k true X (callerOf (V12 a L)) 0 (f12_g1_ttfff a L k X (callerOf (V12 a L)) 0 (o14 rfl _) (c15 d15 _) (decide_eq_false h0) (decide_eq_false h1) c38) rfl (o14 rfl _)) rfl
    | true =>
      rw [hv] at c38
      have r1:=f12_g1_ttfft a L k X (callerOf (V12 a L)) 0 (o14 rfl _) (c15 d15 _) (decide_eq_false h0) (decide_eq_false h1) c38
      obtain ⟨x,hx⟩:∃ x,nL L k=x:=⟨_,rfl⟩
      have hmem:x ∈ L:=by rw [← hx,nL,getD_lt hk]; exact List.getElem_mem hk
      have huniq : ∀ y ∈ L, y.id = x.id → y = x := fun y hy e => by
        obtain ⟨j,hj,rfl⟩:=List.getElem_of_mem hy
        have:j=k:=valid_uniq hv j k hj hk (by rw [hx,nL,getD_lt hj]; exact e)
        subst this
        rw [← hx,nL,getD_lt hj]
      have hoks:okLs L:=okLs_few hf
      have kb:okLsB L=true:=okLsB_iff.2 hoks
      have at0 : ∀ σ, keep σ (indexAddrv Tryd.prog 22 σ (lro L.length 5 (L.flatMap lexC)) (i6 (k : Int))) = some (.eaddr (st x.id :: st x.cat :: st x.stem :: st x.par :: lro x.feats.length 2 (x.feats.flatMap featC) :: tL L k), σ) := fun σ => by
        have:=at_lex (σ:=σ) (lk := .ro) hk
        rw [hx] at this
        exact this
      have f1:findL (L.filter fun y=>decide (y.cat=x.cat)) x.id=(x,true):=find_own (List.mem_filter.2 ⟨hmem,decide_eq_true rfl⟩) fun y hy=>huniq y (List.mem_filter.1 hy).1
      have f2:findL (L.filter fun y=>decide (y.stem=x.stem)) x.id=(x,true):=find_own (List.mem_filter.2 ⟨hmem,decide_eq_true rfl⟩) fun y hy=>huniq y (List.mem_filter.1 hy).1
      have hidx : idxP (fun y => decide (y.id = x.id)) L = (k : Int) := by
        rcases idxP_cases (fun y=>decide (y.id=x.id)) L with ⟨_,hall⟩ | ⟨j,hj,e,hp,_⟩
        · exact absurd (decide_eq_true (by rw [hx])) (hall k hk)
        · rw [e,valid_uniq hv j k hj hk (by rw [hx]; exact of_decide_eq_true hp)]
      have hxl:x.feats.length ≤ big:=okL_len (hoks.2 x hmem)
      have c17:∀ σ,callv X (callerOf (V12 a L)) true 17 [lexsV L,st x.cat] σ 0=some (lexsV (L.filter fun y=>decide (y.cat=x.cat)),σ):=on_two (A:=aLs) (B:=aS) (D:=aLs) (T:=V12 a L) (z:=L.filter fun y=>decide (y.cat=x.cat)) hL rfl rfl (if_pos kb) _
      have c33:∀ σ,callv X (callerOf (V12 a L)) true 33 [lexsV L,st x.stem] σ 0=some (lexsV (L.filter fun y=>decide (y.stem=x.stem)),σ):=on_two (A:=aLs) (B:=aS) (D:=aLs) (T:=V12 a L) (z:=L.filter fun y=>decide (y.stem=x.stem)) hL rfl rfl (if_pos kb) _
      have c26a:∀ σ,callv X (callerOf (V12 a L)) false 26 [lexsV (L.filter fun y=>decide (y.cat=x.cat)),st x.id] σ 0=some (.tup [.agg (lexC x),bo true],σ):=on_two (A:=aLs) (B:=aS) (D:=aLB) (T:=V12 a L) (z:=(x,true)) hL rfl rfl (by rw [if_pos (okLsB_iff.2 (okLs_sub hoks)),f1]) _
      have c26b:∀ σ,callv X (callerOf (V12 a L)) false 26 [lexsV (L.filter fun y=>decide (y.stem=x.stem)),st x.id] σ 0=some (.tup [.agg (lexC x),bo true],σ):=on_two (A:=aLs) (B:=aS) (D:=aLB) (T:=V12 a L) (z:=(x,true)) hL rfl rfl (by rw [if_pos (okLsB_iff.2 (okLs_sub hoks)),f2]) _
      have c28:∀ σ,callv X (callerOf (V12 a L)) true 28 [lexsV L,st x.id] σ 0=some (i6 (k:Int),σ):=on_two (A:=aLs) (B:=aS) (D:=aI) (T:=V12 a L) (z:=(k:Int)) hL rfl rfl (by rw [if_pos kb,hidx]) _
      have c25:∀ σ,callv X (callerOf (V12 a L)) true 25 [.agg (lexC x),.agg (lexC x)] σ 0=some (bo true,σ):=on_two (A:=aL) (B:=aL) (D:=aB) (T:=V12 a L) (z:=true) hL rfl rfl (by rw [if_pos hxl,decide_eq_true rfl]) _
      exact run_res (B:=aB) hX hC (hL.dom 12 rfl rfl) Tryd.func12 hb (f12_pfttttt a L k false X (callerOf (V12 a L)) 0 _ _ _ _ _ _ _ _ _ _ _ _ _ _ _ _ _ _ _ _ _ _ _ _ _ x.id x.cat x.stem x.par x.feats.length (x.feats.flatMap featC) true _ _ _ _ _ _ _ x.id x.cat x.stem x.par x.feats.length (x.feats.flatMap featC) true _ _ _ _ _ _ _ _ _ _ _ _ _ _ _ _ _ _ _ _ _ _ r1 rfl (at0 _) (c17 _) (at0 _) (c33 _) (at0 _) (c26a _) rfl (at0 _) (c26b _) rfl (at0 _) (c28 _) (by simp) (at0 _) (c25 _) (at0 _) (c25 _)) rfl
end
end Go.Proofs.Lex
end
/- Lexicon: from the readings of a row to letters and numbers. -/
section
open Go Go.Vm Go.Proofs Go.Proofs.YtogacbdboplbfaaDoor
open Go.RowKit Go.ChangeShapes Go.WideShapes Go.Lib Go.Shelf
namespace Go.Proofs.Lex
abbrev tysT:List TypeId:=[3,4,5,9,21,22,25,31,33,52,57,106,108]
theorem tysT_ok:tysT.all (Go.Vm.okT Tryd.prog tysT)=true:=by kernel_rfl
theorem int_shape {B:Nat} {t:TypeId} {k:IntKind} (ht:Tryd.prog.underlying t=some (.int k)) {x:List AV} (hx:Shape Tryd.prog B t x):∃ n:Int,x=[.int k n]:=by
  cases hx with
  | int hu n hn =>
    rw [ht] at hu
    simp only [Option.some.injEq,TypeDesc.int.injEq] at hu
    subst hu
    exact ⟨n,rfl⟩
  | str hu=>rw [ht] at hu; cases hu
  | bool hu=>rw [ht] at hu; cases hu
  | slice hu=>rw [ht] at hu; cases hu
  | struct hu=>rw [ht] at hu; cases hu
theorem lett_shape {B:Nat} (x:List AV) (hx:Shape Tryd.prog B 108 x):∃ f:Lett,x=lettC f∧True:=by
  have h108:=Tryd.underlying108
  cases hx with
  | struct hu ps hl hp =>
    rw [h108] at hu
    simp only [Option.some.injEq,TypeDesc.struct.injEq] at hu
    subst hu
    match ps,hl with
    | [p0, p1], _ =>
      obtain ⟨a,rfl⟩:=int_shape Tryd.underlying21 (hp 0 _ _ rfl rfl)
      obtain ⟨b,rfl⟩:=int_shape Tryd.underlying106 (hp 1 _ _ rfl rfl)
      exact ⟨⟨a,b⟩,rfl,trivial⟩
  | int hu=>rw [h108] at hu; cases hu
  | bool hu=>rw [h108] at hu; cases hu
  | str hu=>rw [h108] at hu; cases hu
  | slice hu=>rw [h108] at hu; cases hu
theorem cells108:Tryd.prog.cellsOf 108=2:=by kernel_rfl
theorem bytes108:Tryd.prog.bytesOf 108=8:=by kernel_rfl
theorem arg_letts {B:Nat} {v:AV} (h:ArgIs Tryd.prog B 52 v):∃ a:List Lett,v=lettsV a∧a.length * 8 ≤ B:=by
  obtain ⟨l,hl,_,h2⟩:=row_shape (enc:=lettC) (Q:=fun _=>True) Tryd.underlying52 cells108 bytes108 lett_shape (h.one Tryd.underlying52 rfl)
  simp only [List.cons.injEq,and_true] at hl
  exact ⟨l,hl,h2⟩
theorem arg_int3 {B:Nat} {v:AV} (h:ArgIs Tryd.prog B 3 v):∃ n:Int,v=i6 n:=by
  obtain ⟨n,hn⟩:=int_shape Tryd.underlying3 (h.one Tryd.underlying3 rfl)
  simp only [List.cons.injEq,and_true] at hn
  exact ⟨n,hn⟩
theorem bigT_of {B n k:Nat} (hB:B ≤ big) (hk:1 ≤ k) (h:n * k ≤ B):n ≤ big:=Nat.le_trans (Nat.le_trans (Nat.le_mul_of_pos_right n hk) h) hB
theorem okV_of {B:Nat} (hB:B ≤ big) {x:Lexm} (h:LexIn B x):okV x:=by
  obtain ⟨h1,h2,h3,h4,h5,h6⟩:=h
  exact ⟨Nat.le_trans h1 hB,Nat.le_trans h2 hB,Nat.le_trans h3 hB,Nat.le_trans h4 hB,bigT_of hB (by decide) h6,fun f hf=>⟨Nat.le_trans (h5 f hf).1 hB,Nat.le_trans (h5 f hf).2 hB⟩⟩
theorem xv09 [Fixed]:XV X09:=⟨xm09,rfl⟩
end Go.Proofs.Lex
end
