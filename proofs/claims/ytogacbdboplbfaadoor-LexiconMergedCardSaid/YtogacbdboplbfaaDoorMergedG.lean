/- Part 7 of the texts of this claim: the evaluator, and what it says of the program's functions. -/
import Derived.Test.YtogacbdboplbfaaDoorMergedE
import Derived.Test.YtogacbdboplbfaaDoorMergedF
import Derived.Test.YtogacbdboplbfaaDoorMergedC
import Derived.Test.YtogacbdboplbfaaDoorMergedD
set_option linter.unusedSectionVars false
set_option linter.unusedVariables false
set_option linter.unusedSimpArgs false
set_option linter.constructorNameAsVariable false
/- Lexicon: letters; the index of their runes. -/
section
open Go Go.Vm Go.Proofs
namespace Go.Proofs.Lex
structure Lett where
  r:Int
  c:Int
  deriving DecidableEq
abbrev i3 (n:Int):AV := .int .i32 n
def lettC (x:Lett):List AV:=[.int .i32 x.r,.int .u32 x.c]
def lettsV (l:List Lett):AV := .list .ro l.length 2 (l.flatMap lettC)
def d0T:Lett:=⟨0,0⟩
abbrev nT (a:List Lett) (i:Nat):Lett:=a.getD i d0T
abbrev rT (a:List Lett) (i:Nat):List AV:=(a.flatMap lettC).drop (i * 2)
def tT (a:List Lett) (i:Nat):List AV:=(a.drop (i + 1)).flatMap lettC
theorem rT_eq {a:List Lett} {i:Nat} (h:i < a.length):rT a i=lettC (nT a i) ++ (a.drop (i + 1)).flatMap lettC:=by
  unfold rT nT
  rw [flat_drop (fun _=>rfl:∀ x,(lettC x).length=2) a i h,getD_lt h]
theorem at_lett {σ:List Ob} {lk:LK} {a:List Lett} {i:Nat} (h:i < a.length):keep σ (indexAddrv Tryd.prog 52 σ (.list lk a.length 2 (a.flatMap lettC)) (i6 (↑i:Int)))=some (.eaddr (.int .i32 (nT a i).r :: .int .u32 (nT a i).c::tT a i),σ):=by
  rw [at_rows Tryd.underlying52 (by kernel_rfl) (by kernel_rfl) h]
  rw [show (a.flatMap lettC).drop (i * 2)=rT a i from rfl,rT_eq h]
  rfl
section
variable [Fixed]
def cT:Cod Lett:=((Cod.int .i32).prod (Cod.int .u32)).iso (fun x=>⟨x.1,x.2⟩) (fun f=>(f.r,f.c)) (fun _=>rfl) (fun _=>rfl)
def aTs:Arg (List Lett):=Arg.cell cT.list rfl
def aR:Arg Int:=Arg.cell (Cod.int .i32) rfl
end
/-- Which runes have come, each with its first place. -/
def idxR (a:List Lett):Nat→List (Int × Nat)
  | 0=>[]
  | i + 1=>if (idxR a i).any (fun e=>e.1 == (nT a i).r) then idxR a i else idxR a i ++ [((nT a i).r,i)]
def entR (e:Int × Nat):AV × AV:=(i3 e.1,i6 (e.2:Int))
def mapR (l:List (Int × Nat)):List (AV × AV):=l.map entR
theorem look_E (r:Int):∀ (l:List (Int × Nat)),lookupEs (i3 r) (mapR l)=some ((l.find? fun e=>e.1 == r).map fun e=>i6 (e.2:Int))
  | []=>rfl
  | e :: l => by
    show lookupEs (i3 r) (entR e::mapR l)=_
    unfold entR lookupEs
    simp only [if_true]
    rw [List.find?_cons]
    by_cases h:r=e.1
    · subst h; simp
    · have : (e.1 == r) = false := beq_eq_false_iff_ne.2 fun x => h x.symm
      rw [if_neg h,this]
      exact look_E r l
theorem find_any (r:Int) (l:List (Int × Nat)):(l.find? fun e=>e.1 == r).isSome=l.any fun e=>e.1 == r:=by
  rw [Bool.eq_iff_iff,List.find?_isSome,List.any_eq_true]
theorem put_E {r:Int} {k:Nat}:∀ {l:List (Int × Nat)},(l.any fun e=>e.1 == r)=false→putEs (i3 r) (i6 (k:Int)) (mapR l)=some (mapR (l ++ [(r,k)]))
  | [],_=>rfl
  | e :: l, h => by
    simp only [List.any_cons,Bool.or_eq_false_iff] at h
    have hne : ¬ r=e.1:=fun x=>by rw [x] at h; simp at h
    show putEs (i3 r) (i6 (k:Int)) (entR e::mapR l)=_
    unfold entR putEs
    have : lookupEs (i3 r) [(i3 e.1, i6 (e.2 : Int))] = some none := by
      unfold lookupEs
      simp only [if_true]
      rw [if_neg hne]
      rfl
    simp only [this]
    rw [put_E h.2]
    rfl
/-- The IDs that have come. -/
def idsR (L:List Lexm) (i:Nat):List (AV × AV):=(L.take i).map fun x=>(AV.str x.id,AV.bool true)
/-- What the index says of a rune. -/
def hasR (a:List Lett) (r:Int):Bool:=(idxR a a.length).any fun e=>e.1 == r
end Go.Proofs.Lex
end
/- Lexicon: alphabets, Valid, and two laws, walked (printed) -/
section
open Go Go.Vm Go.Proofs
namespace Go.Proofs.Lex
theorem f91_ptt (n0:Int)(X:Ext)(call:Caller)(lf:Nat)
 (h0:decide (0 ≤ n0)=true)
 (h1:decide (n0<55296)=true):vbody Tryd.prog X call lf noFg Tryd.f91 (codeOf Tryd.f91) [AV.int IntKind.i32 n0] [] 0=some (bo true,[]) :=
  along_sound (ans:=[(4,Ans.b true),(9,Ans.b true)]) (by kernel_rfl) (ai h0 (ai h1 trivial))
theorem f91_ptftt (n0:Int)(X:Ext)(call:Caller)(lf:Nat)
 (h0:decide (0 ≤ n0)=true)
 (h1:decide (n0<55296)=false)
 (h2:decide (57343<n0)=true)
 (h3:decide (n0 ≤ 1114111)=true):vbody Tryd.prog X call lf noFg Tryd.f91 (codeOf Tryd.f91) [AV.int IntKind.i32 n0] [] 0=some (bo true,[]) :=
  along_sound (ans:=[(4,Ans.b true),(9,Ans.b false),(15,Ans.b true),(20,Ans.b true)]) (by kernel_rfl) (ai h0 (ai h1 (ai h2 (ai h3 trivial))))
theorem f91_ptftf (n0:Int)(X:Ext)(call:Caller)(lf:Nat)
 (h0:decide (0 ≤ n0)=true)
 (h1:decide (n0<55296)=false)
 (h2:decide (57343<n0)=true)
 (h3:decide (n0 ≤ 1114111)=false):vbody Tryd.prog X call lf noFg Tryd.f91 (codeOf Tryd.f91) [AV.int IntKind.i32 n0] [] 0=some (bo false,[]) :=
  along_sound (ans:=[(4,Ans.b true),(9,Ans.b false),(15,Ans.b true),(20,Ans.b false)]) (by kernel_rfl) (ai h0 (ai h1 (ai h2 (ai h3 trivial))))
theorem f91_ptff (n0:Int)(X:Ext)(call:Caller)(lf:Nat)
 (h0:decide (0 ≤ n0)=true)
 (h1:decide (n0<55296)=false)
 (h2:decide (57343<n0)=false):vbody Tryd.prog X call lf noFg Tryd.f91 (codeOf Tryd.f91) [AV.int IntKind.i32 n0] [] 0=some (bo false,[]) :=
  along_sound (ans:=[(4,Ans.b true),(9,Ans.b false),(15,Ans.b false)]) (by kernel_rfl) (ai h0 (ai h1 (ai h2 trivial)))
theorem f91_pftt (n0:Int)(X:Ext)(call:Caller)(lf:Nat)
 (h0:decide (0 ≤ n0)=false)
 (h1:decide (57343<n0)=true)
 (h2:decide (n0 ≤ 1114111)=true):vbody Tryd.prog X call lf noFg Tryd.f91 (codeOf Tryd.f91) [AV.int IntKind.i32 n0] [] 0=some (bo true,[]) :=
  along_sound (ans:=[(4,Ans.b false),(13,Ans.b true),(18,Ans.b true)]) (by kernel_rfl) (ai h0 (ai h1 (ai h2 trivial)))
theorem f91_pftf (n0:Int)(X:Ext)(call:Caller)(lf:Nat)
 (h0:decide (0 ≤ n0)=false)
 (h1:decide (57343<n0)=true)
 (h2:decide (n0 ≤ 1114111)=false):vbody Tryd.prog X call lf noFg Tryd.f91 (codeOf Tryd.f91) [AV.int IntKind.i32 n0] [] 0=some (bo false,[]) :=
  along_sound (ans:=[(4,Ans.b false),(13,Ans.b true),(18,Ans.b false)]) (by kernel_rfl) (ai h0 (ai h1 (ai h2 trivial)))
theorem f91_pff (n0:Int)(X:Ext)(call:Caller)(lf:Nat)
 (h0:decide (0 ≤ n0)=false)
 (h1:decide (57343<n0)=false):vbody Tryd.prog X call lf noFg Tryd.f91 (codeOf Tryd.f91) [AV.int IntKind.i32 n0] [] 0=some (bo false,[]) :=
  along_sound (ans:=[(4,Ans.b false),(13,Ans.b false)]) (by kernel_rfl) (ai h0 (ai h1 trivial))
def f91_q0 (n0:Int):Nat :=
  (match decide (0 ≤ n0) with
  | true=>(match decide (n0<55296) with
    | true=>0
    | false=>(match decide (57343<n0) with
      | true=>(match decide (n0 ≤ 1114111) with
        | true=>0
        | false=>1)
      | false=>1))
  | false=>(match decide (57343<n0) with
    | true=>(match decide (n0 ≤ 1114111) with
      | true=>0
      | false=>1)
    | false=>1))
theorem f91_P0 (n0:Int)(X:Ext)(call:Caller)(lf:Nat) :
    (f91_q0 n0=0→vbody Tryd.prog X call lf noFg Tryd.f91 (codeOf Tryd.f91) [AV.int IntKind.i32 n0] [] 0=some (bo true,[]))∧(f91_q0 n0=1→vbody Tryd.prog X call lf noFg Tryd.f91 (codeOf Tryd.f91) [AV.int IntKind.i32 n0] [] 0=some (bo false,[])):=by
  unfold f91_q0
  cases c0:decide (0 ≤ n0) with
  | true =>
    cases c1:decide (n0<55296) with
    | true =>
      exact ⟨fun _=>f91_ptt n0 X call lf c0 c1,fun h=>absurd (show (0:Nat)=1 from h) (by decide)⟩
    | false =>
      cases c2:decide (57343<n0) with
      | true =>
        cases c3:decide (n0 ≤ 1114111) with
        | true =>
          exact ⟨fun _=>f91_ptftt n0 X call lf c0 c1 c2 c3,fun h=>absurd (show (0:Nat)=1 from h) (by decide)⟩
        | false =>
          exact ⟨fun h=>absurd (show (1:Nat)=0 from h) (by decide),fun _=>f91_ptftf n0 X call lf c0 c1 c2 c3⟩
      | false =>
        exact ⟨fun h=>absurd (show (1:Nat)=0 from h) (by decide),fun _=>f91_ptff n0 X call lf c0 c1 c2⟩
  | false =>
    cases c1:decide (57343<n0) with
    | true =>
      cases c2:decide (n0 ≤ 1114111) with
      | true =>
        exact ⟨fun _=>f91_pftt n0 X call lf c0 c1 c2,fun h=>absurd (show (0:Nat)=1 from h) (by decide)⟩
      | false =>
        exact ⟨fun h=>absurd (show (1:Nat)=0 from h) (by decide),fun _=>f91_pftf n0 X call lf c0 c1 c2⟩
    | false =>
      exact ⟨fun h=>absurd (show (1:Nat)=0 from h) (by decide),fun _=>f91_pff n0 X call lf c0 c1⟩
def f92_F0 (a0:List Lett)(i0:Nat):St :=
  stOf 33 [4,5,6,7,14,15,16,17,18,19,20,21,22,23,24,25,26,27,28,29,30,31] [(0,lro a0.length 2 (List.flatMap lettC a0)),(2,AV.mnil),(3,AV.map 0),(8,lro a0.length 2 (List.flatMap lettC a0)),(9,i6 (↑a0.length:Int)),(10,AV.map 0),(11,lro a0.length 2 (List.flatMap lettC a0)),(12,i6 (↑a0.length:Int)),(13,i6 (↑i0:Int))] [Ob.mapo (mapR (idxR a0 i0))]
def f92_S0 (a0:List Lett):St :=
  stOf 33 [] [(0,lro a0.length 2 (List.flatMap lettC a0)),(2,AV.mnil),(3,AV.map 0),(8,lro a0.length 2 (List.flatMap lettC a0)),(9,i6 (↑a0.length:Int)),(10,AV.map 0),(11,lro a0.length 2 (List.flatMap lettC a0)),(12,i6 (↑a0.length:Int)),(13,i6 0)] [Ob.mapo []]
abbrev f92_D0:List Nat:=[31,30,29,28,27,26,25,7,6,24,23,18,22,21,20,19,4,5,17,16,15,14]
theorem f92_L0 (a0:List Lett)(X:Ext)(call:Caller)(lf n:Nat)(x:Ex) (S' : St)
 (hn:n<lf)
 (hs:∀ j,j<n→∃ Sx,vexec Tryd.prog X call lf 0 fg92 (loopN Tryd.f92 0) (f92_F0 a0 j)=some (Ex.normal,Sx)∧forget f92_D0 Sx=(f92_F0 a0 (j + 1)))
 (he:vexec Tryd.prog X call lf 0 fg92 (loopN Tryd.f92 0) (f92_F0 a0 n)=some (x,S'))
 (hx:x ≠ Ex.normal):vexec Tryd.prog X call lf 0 fg92 (Go.Code.loop (loopN Tryd.f92 0)) (f92_S0 a0)=some (x,S') :=
  loop_runK (by kernel_rfl) (fun j=>(f92_F0 a0 j)) n hn (by show forget f92_D0 (f92_S0 a0)=(f92_F0 a0 0); unfold f92_F0; show _=_; kernel_rfl) hs he hx
theorem f92_s0_tt (a0:List Lett)(X:Ext)(call:Caller)(lf i0:Nat)(a c:Int)(r16:List AV)(d:Int)(e:Bool)
 (h0:decide ((↑i0:Int)<(↑a0.length:Int))=true)
 (h1:keep [Ob.mapo (mapR (idxR a0 i0))] (indexAddrv Tryd.prog 52 [Ob.mapo (mapR (idxR a0 i0))] (lro a0.length 2 (List.flatMap lettC a0)) (i6 (↑i0:Int)))=some (AV.eaddr (AV.int IntKind.i32 a::AV.int IntKind.u32 c::r16),[Ob.mapo (mapR (idxR a0 i0))]))
 (h2:keep [Ob.mapo (mapR (idxR a0 i0))] (lookupv Tryd.prog 110 [Ob.mapo (mapR (idxR a0 i0))] (AV.map 0) (AV.int IntKind.i32 a) true)=some (AV.tup [i6 d,bo e],[Ob.mapo (mapR (idxR a0 i0))]))
 (h3:e=true)
 (e0:(↑(i0 + 1):Int)=w6 ((↑i0:Int) + 1))
 (e1:[Ob.mapo (mapR (idxR a0 (i0 + 1)))]=[Ob.mapo (mapR (idxR a0 i0))]):∃ Sx,vexec Tryd.prog X call lf 0 fg92 (loopN Tryd.f92 0) (f92_F0 a0 i0)=some (Ex.normal,Sx)∧forget f92_D0 Sx=(f92_F0 a0 (i0 + 1)) :=
  ⟨stOf 33 [14,15,16,17,18,19,20,21,22,23,24,27,28,29,30,31] [(0,lro a0.length 2 (List.flatMap lettC a0)),(2,AV.mnil),(3,AV.map 0),(4,i6 (↑i0:Int)),(5,AV.eaddr [AV.int IntKind.i32 a,AV.int IntKind.u32 c]),(6,i6 d),(7,bo true),(8,lro a0.length 2 (List.flatMap lettC a0)),(9,i6 (↑a0.length:Int)),(10,AV.map 0),(11,lro a0.length 2 (List.flatMap lettC a0)),(12,i6 (↑a0.length:Int)),(13,i6 (w6 ((↑i0:Int) + 1))),(25,bo true),(26,bo false)] [Ob.mapo (mapR (idxR a0 i0))],around_sound (ans:=[(1,Ans.b true),(5,Ans.v (AV.eaddr (AV.int IntKind.i32 a::AV.int IntKind.u32 c::r16))),(11,Ans.v (AV.tup [i6 d,bo e])),(14,Ans.b true)]) (by kernel_rfl) (ai h0 (ai h1 (ai h2 (ai h3 trivial)))),by unfold f92_F0; rw [e0,e1]; show _=_; kernel_rfl⟩
theorem f92_s0_tf (a0:List Lett)(X:Ext)(call:Caller)(lf i0:Nat)(a d:Int)(r16:List AV)(e:Int)(g:Bool)(sq26:List Ob)
 (h0:decide ((↑i0:Int)<(↑a0.length:Int))=true)
 (h1:keep [Ob.mapo (mapR (idxR a0 i0))] (indexAddrv Tryd.prog 52 [Ob.mapo (mapR (idxR a0 i0))] (lro a0.length 2 (List.flatMap lettC a0)) (i6 (↑i0:Int)))=some (AV.eaddr (AV.int IntKind.i32 a::AV.int IntKind.u32 d::r16),[Ob.mapo (mapR (idxR a0 i0))]))
 (h2:keep [Ob.mapo (mapR (idxR a0 i0))] (lookupv Tryd.prog 110 [Ob.mapo (mapR (idxR a0 i0))] (AV.map 0) (AV.int IntKind.i32 a) true)=some (AV.tup [i6 e,bo g],[Ob.mapo (mapR (idxR a0 i0))]))
 (h3:g=false)
 (h4:unit1 (mapUpdatev Tryd.prog 110 [Ob.mapo (mapR (idxR a0 i0))] 0 (AV.map 0) (AV.int IntKind.i32 a) (i6 (↑i0:Int)))=some (AV.undef,sq26))
 (e0:(↑(i0 + 1):Int)=w6 ((↑i0:Int) + 1))
 (e1:[Ob.mapo (mapR (idxR a0 (i0 + 1)))]=sq26):∃ Sx,vexec Tryd.prog X call lf 0 fg92 (loopN Tryd.f92 0) (f92_F0 a0 i0)=some (Ex.normal,Sx)∧forget f92_D0 Sx=(f92_F0 a0 (i0 + 1)) :=
  ⟨stOf 33 [14,15,16,17,18,19,20,21,22,23,24,27,28,29,30,31] [(0,lro a0.length 2 (List.flatMap lettC a0)),(2,AV.mnil),(3,AV.map 0),(4,i6 (↑i0:Int)),(5,AV.eaddr [AV.int IntKind.i32 a,AV.int IntKind.u32 d]),(6,i6 e),(7,bo false),(8,lro a0.length 2 (List.flatMap lettC a0)),(9,i6 (↑a0.length:Int)),(10,AV.map 0),(11,lro a0.length 2 (List.flatMap lettC a0)),(12,i6 (↑a0.length:Int)),(13,i6 (w6 ((↑i0:Int) + 1))),(25,bo false),(26,bo true)] sq26,around_sound (ans:=[(1,Ans.b true),(5,Ans.v (AV.eaddr (AV.int IntKind.i32 a::AV.int IntKind.u32 d::r16))),(11,Ans.v (AV.tup [i6 e,bo g])),(14,Ans.b false),(26,Ans.c AV.undef sq26)]) (by kernel_rfl) (ai h0 (ai h1 (ai h2 (ai h3 (ai h4 trivial))))),by unfold f92_F0; rw [e0,e1]; show _=_; kernel_rfl⟩
def f92_S1 (a0:List Lett)(i0:Nat):St :=
  stOf 33 [4,5,6,7,15,16,17,18,19,20,21,22,23,24,25,26,27,28,29,30,31] [(0,lro a0.length 2 (List.flatMap lettC a0)),(2,AV.mnil),(3,AV.map 0),(8,lro a0.length 2 (List.flatMap lettC a0)),(9,i6 (↑a0.length:Int)),(10,AV.map 0),(11,lro a0.length 2 (List.flatMap lettC a0)),(12,i6 (↑a0.length:Int)),(13,i6 (↑i0:Int)),(14,bo false)] [Ob.mapo (mapR (idxR a0 i0))]
theorem f92_r0_f (a0:List Lett)(X:Ext)(call:Caller)(lf i0:Nat)
 (h0:decide ((↑i0:Int)<(↑a0.length:Int))=false):vexec Tryd.prog X call lf 0 fg92 (loopN Tryd.f92 0) (f92_F0 a0 i0)=some (Ex.exit 0,(f92_S1 a0 i0)) :=
  around_sound (ans:=[(1,Ans.b false)]) (by kernel_rfl) (ai h0 trivial)
theorem f92_plf (a0:List Lett)(X:Ext)(call:Caller)(lf i0:Nat)
 (h0:vexec Tryd.prog X call lf 0 fg92 (Code.loop (loopN Tryd.f92 0)) (f92_S0 a0)=some (Ex.exit 0,(f92_S1 a0 i0))):vbody Tryd.prog X call lf fg92 Tryd.f92 (codeOf Tryd.f92) [lettsV a0] [] 0=some (AV.map 0,[Ob.mapo (mapR (idxR a0 i0))]) :=
  along_sound (ans:=[(11,Ans.l (Ex.exit 0) (f92_S1 a0 i0))]) (by kernel_rfl) (ai h0 trivial)
def f92_o0 (a0:List Lett)(i0:Nat)(a:Bool):Nat :=
  (match decide ((↑i0:Int)<(↑a0.length:Int)) with
  | true=>(match a with
    | true=>0
    | false=>0)
  | false=>1)
theorem f92_B0 (a0:List Lett)(X:Ext)(call:Caller)(lf i0:Nat)(a b:Int)(r16:List AV)(c:Int)(d:Bool)(sq26:List Ob)
 (g0:decide ((↑i0:Int)<(↑a0.length:Int))=true→keep [Ob.mapo (mapR (idxR a0 i0))] (indexAddrv Tryd.prog 52 [Ob.mapo (mapR (idxR a0 i0))] (lro a0.length 2 (List.flatMap lettC a0)) (i6 (↑i0:Int)))=some (AV.eaddr (AV.int IntKind.i32 a::AV.int IntKind.u32 b::r16),[Ob.mapo (mapR (idxR a0 i0))]))
 (g1:decide ((↑i0:Int)<(↑a0.length:Int))=true→keep [Ob.mapo (mapR (idxR a0 i0))] (lookupv Tryd.prog 110 [Ob.mapo (mapR (idxR a0 i0))] (AV.map 0) (AV.int IntKind.i32 a) true)=some (AV.tup [i6 c,bo d],[Ob.mapo (mapR (idxR a0 i0))]))
 (g2:decide ((↑i0:Int)<(↑a0.length:Int))=true→d=false→unit1 (mapUpdatev Tryd.prog 110 [Ob.mapo (mapR (idxR a0 i0))] 0 (AV.map 0) (AV.int IntKind.i32 a) (i6 (↑i0:Int)))=some (AV.undef,sq26))
 (e0:decide ((↑i0:Int)<(↑a0.length:Int))=true→(↑(i0 + 1):Int)=w6 ((↑i0:Int) + 1))
 (e1:decide ((↑i0:Int)<(↑a0.length:Int))=true→d=true→[Ob.mapo (mapR (idxR a0 (i0 + 1)))]=[Ob.mapo (mapR (idxR a0 i0))])
 (e2:decide ((↑i0:Int)<(↑a0.length:Int))=true→d=false→[Ob.mapo (mapR (idxR a0 (i0 + 1)))]=sq26) :
    (f92_o0 a0 i0 d=0→∃ Sx,vexec Tryd.prog X call lf 0 fg92 (loopN Tryd.f92 0) (f92_F0 a0 i0)=some (Ex.normal,Sx)∧forget f92_D0 Sx=(f92_F0 a0 (i0 + 1)))∧(f92_o0 a0 i0 d=1→vexec Tryd.prog X call lf 0 fg92 (loopN Tryd.f92 0) (f92_F0 a0 i0)=some (Ex.exit 0,(f92_S1 a0 i0))):=by
  refine (Bool.eq_false_or_eq_true (decide ((↑i0:Int)<(↑a0.length:Int)))).elim (fun c0 => ?_) (fun c0 => ?_)
  ·
    refine (Bool.eq_false_or_eq_true (d)).elim (fun c1 => ?_) (fun c1 => ?_)
    ·
      have ho:f92_o0 a0 i0 d=0:=by
        unfold f92_o0
        simp only [c0,c1]
      exact ⟨fun _=>f92_s0_tt a0 X call lf i0 a b r16 c d c0 (g0 c0) (g1 c0) c1 (e0 c0) (e1 c0 c1),fun h=>absurd (ho.symm.trans h) (by decide)⟩
    ·
      have ho:f92_o0 a0 i0 d=0:=by
        unfold f92_o0
        simp only [c0,c1]
      exact ⟨fun _=>f92_s0_tf a0 X call lf i0 a b r16 c d sq26 c0 (g0 c0) (g1 c0) c1 (g2 c0 c1) (e0 c0) (e2 c0 c1),fun h=>absurd (ho.symm.trans h) (by decide)⟩
  ·
    have ho:f92_o0 a0 i0 d=1:=by
      unfold f92_o0
      simp only [c0]
    exact ⟨fun h=>absurd (ho.symm.trans h) (by decide),fun _=>f92_r0_f a0 X call lf i0 c0⟩
theorem f92_X0 (a0:List Lett)(X:Ext)(call:Caller)(lf i0:Nat)(a b:Int)(r16:List AV)(c:Int)(d:Bool)(sq26:List Ob)
 (g0:decide ((↑i0:Int)<(↑a0.length:Int))=true→keep [Ob.mapo (mapR (idxR a0 i0))] (indexAddrv Tryd.prog 52 [Ob.mapo (mapR (idxR a0 i0))] (lro a0.length 2 (List.flatMap lettC a0)) (i6 (↑i0:Int)))=some (AV.eaddr (AV.int IntKind.i32 a::AV.int IntKind.u32 b::r16),[Ob.mapo (mapR (idxR a0 i0))]))
 (g1:decide ((↑i0:Int)<(↑a0.length:Int))=true→keep [Ob.mapo (mapR (idxR a0 i0))] (lookupv Tryd.prog 110 [Ob.mapo (mapR (idxR a0 i0))] (AV.map 0) (AV.int IntKind.i32 a) true)=some (AV.tup [i6 c,bo d],[Ob.mapo (mapR (idxR a0 i0))]))
 (g2:decide ((↑i0:Int)<(↑a0.length:Int))=true→d=false→unit1 (mapUpdatev Tryd.prog 110 [Ob.mapo (mapR (idxR a0 i0))] 0 (AV.map 0) (AV.int IntKind.i32 a) (i6 (↑i0:Int)))=some (AV.undef,sq26)) :
    (f92_o0 a0 i0 d=1→vexec Tryd.prog X call lf 0 fg92 (loopN Tryd.f92 0) (f92_F0 a0 i0)=some (Ex.exit 0,(f92_S1 a0 i0))):=by
  refine (Bool.eq_false_or_eq_true (decide ((↑i0:Int)<(↑a0.length:Int)))).elim (fun c0 => ?_) (fun c0 => ?_)
  ·
    refine (Bool.eq_false_or_eq_true (d)).elim (fun c1 => ?_) (fun c1 => ?_)
    ·
      have ho:f92_o0 a0 i0 d=0:=by
        unfold f92_o0
        simp only [c0,c1]
      exact fun h=>absurd (ho.symm.trans h) (by decide)
    ·
      have ho:f92_o0 a0 i0 d=0:=by
        unfold f92_o0
        simp only [c0,c1]
      exact fun h=>absurd (ho.symm.trans h) (by decide)
  ·
    have ho:f92_o0 a0 i0 d=1:=by
      unfold f92_o0
      simp only [c0]
    exact fun _=>f92_r0_f a0 X call lf i0 c0
theorem f92_M (a0:List Lett)(X:Ext)(call:Caller)(lf n:Nat)(a b:Nat→Int)(r16:Nat→List AV)(c:Nat→Int)(d:Nat→Bool)(sq26:Nat→List Ob)
 (hn:n<lf)
 (g0:∀ i0,i0 ≤ n→decide ((↑i0:Int)<(↑a0.length:Int))=true→keep [Ob.mapo (mapR (idxR a0 i0))] (indexAddrv Tryd.prog 52 [Ob.mapo (mapR (idxR a0 i0))] (lro a0.length 2 (List.flatMap lettC a0)) (i6 (↑i0:Int)))=some (AV.eaddr (AV.int IntKind.i32 (a i0)::AV.int IntKind.u32 (b i0)::(r16 i0)),[Ob.mapo (mapR (idxR a0 i0))]))
 (g1:∀ i0,i0 ≤ n→decide ((↑i0:Int)<(↑a0.length:Int))=true→keep [Ob.mapo (mapR (idxR a0 i0))] (lookupv Tryd.prog 110 [Ob.mapo (mapR (idxR a0 i0))] (AV.map 0) (AV.int IntKind.i32 (a i0)) true)=some (AV.tup [i6 (c i0),bo (d i0)],[Ob.mapo (mapR (idxR a0 i0))]))
 (g2:∀ i0,i0 ≤ n→decide ((↑i0:Int)<(↑a0.length:Int))=true→(d i0)=false→unit1 (mapUpdatev Tryd.prog 110 [Ob.mapo (mapR (idxR a0 i0))] 0 (AV.map 0) (AV.int IntKind.i32 (a i0)) (i6 (↑i0:Int)))=some (AV.undef,(sq26 i0)))
 (e0:∀ i0,i0<n→decide ((↑i0:Int)<(↑a0.length:Int))=true→(↑(i0 + 1):Int)=w6 ((↑i0:Int) + 1))
 (e1:∀ i0,i0<n→decide ((↑i0:Int)<(↑a0.length:Int))=true→(d i0)=true→[Ob.mapo (mapR (idxR a0 (i0 + 1)))]=[Ob.mapo (mapR (idxR a0 i0))])
 (e2:∀ i0,i0<n→decide ((↑i0:Int)<(↑a0.length:Int))=true→(d i0)=false→[Ob.mapo (mapR (idxR a0 (i0 + 1)))]=(sq26 i0))
 (hz:∀ j,j<n→f92_o0 a0 j (d j)=0) :
    (f92_o0 a0 n (d n)=1→vbody Tryd.prog X call lf fg92 Tryd.f92 (codeOf Tryd.f92) [lettsV a0] [] 0=some (AV.map 0,[Ob.mapo (mapR (idxR a0 n))])):=by
  have key:∀ j,j<n→_:=fun j hj=>(f92_B0 a0 X call lf j (a j) (b j) (r16 j) (c j) (d j) (sq26 j) (g0 j (Nat.le_of_lt hj)) (g1 j (Nat.le_of_lt hj)) (g2 j (Nat.le_of_lt hj)) (e0 j hj) (e1 j hj) (e2 j hj)).1 (hz j hj)
  have kn:=f92_X0 a0 X call lf n (a n) (b n) (r16 n) (c n) (d n) (sq26 n) (g0 n (Nat.le_refl n)) (g1 n (Nat.le_refl n)) (g2 n (Nat.le_refl n))
  exact fun hk=>f92_plf a0 X call lf n (f92_L0 a0 X call lf n _ _ hn key (kn hk) (by simp))
def fg70:Nat→List Nat
  | 1=>[5,6,7,8,9,10,11]
  | 5=>[17,18]
  | 6=>[19,20,21,22,23,24,25,26]
  | 8=>[28]
  | 5005=>[1]
  | _=>[]
theorem f70_pt (a0:List Lett)(X:Ext)(call:Caller)(lf:Nat)
 (h0:decide ((↑a0.length:Int)<1)=true):vbody Tryd.prog X call lf fg70 Tryd.f70 (codeOf Tryd.f70) [lettsV a0] [] 0=some (bo false,[]) :=
  along_sound (ans:=[(5,Ans.b true)]) (by kernel_rfl) (ai h0 trivial)
theorem f70_pft (a0:List Lett)(X:Ext)(call:Caller)(lf:Nat)
 (h0:decide ((↑a0.length:Int)<1)=false)
 (h1:decide ((↑a0.length:Int)>64)=true):vbody Tryd.prog X call lf fg70 Tryd.f70 (codeOf Tryd.f70) [lettsV a0] [] 0=some (bo false,[]) :=
  along_sound (ans:=[(5,Ans.b false),(12,Ans.b true)]) (by kernel_rfl) (ai h0 (ai h1 trivial))
def f70_F0 (a0:List Lett)(i0:Nat):St :=
  stOf 35 [2,4,5,6,7,8,9,10,11,16,17,18,19,20,21,22,23,24,25,26,27,28] [(0,lro a0.length 2 (List.flatMap lettC a0)),(12,bo false),(13,lro a0.length 2 (List.flatMap lettC a0)),(14,i6 (↑a0.length:Int)),(15,i6 (↑i0:Int))] []
def f70_S0 (a0:List Lett):St :=
  stOf 35 [5,6,7,8,9,10,11] [(0,lro a0.length 2 (List.flatMap lettC a0)),(2,bo false),(12,bo false),(13,lro a0.length 2 (List.flatMap lettC a0)),(14,i6 (↑a0.length:Int)),(15,i6 0)] []
abbrev f70_D0:List Nat:=[28,2,27,26,25,24,23,22,21,20,19,4,18,17,16]
theorem f70_L0 (a0:List Lett)(X:Ext)(call:Caller)(lf n:Nat)(x:Ex) (S' : St)
 (hn:n<lf)
 (hs:∀ j,j<n→∃ Sx,vexec Tryd.prog X call lf 0 fg70 (loopN Tryd.f70 0) (f70_F0 a0 j)=some (Ex.normal,Sx)∧forget f70_D0 Sx=(f70_F0 a0 (j + 1)))
 (he:vexec Tryd.prog X call lf 0 fg70 (loopN Tryd.f70 0) (f70_F0 a0 n)=some (x,S'))
 (hx:x ≠ Ex.normal):vexec Tryd.prog X call lf 0 fg70 (Go.Code.loop (loopN Tryd.f70 0)) (f70_S0 a0)=some (x,S') :=
  loop_runK (by kernel_rfl) (fun j=>(f70_F0 a0 j)) n hn (by show forget f70_D0 (f70_S0 a0)=(f70_F0 a0 0); unfold f70_F0; show _=_; kernel_rfl) hs he hx
def f70_S1 (a0:List Lett)(i0:Nat)(a b:Int):St :=
  stOf 35 [5,6,7,8,9,10,11,17,18,19,20,21,22,23,24,25,26,28] [(0,lro a0.length 2 (List.flatMap lettC a0)),(2,bo false),(4,AV.eaddr [AV.int IntKind.i32 a,AV.int IntKind.u32 b]),(12,bo false),(13,lro a0.length 2 (List.flatMap lettC a0)),(14,i6 (↑a0.length:Int)),(15,i6 (↑i0:Int)),(16,bo true),(27,bo true)] []
theorem f70_r0_tt (a0:List Lett)(X:Ext)(call:Caller)(lf i0:Nat)(a c:Int)(r17:List AV)
 (h0:decide ((↑i0:Int)<(↑a0.length:Int))=true)
 (h1:keep [] (indexAddrv Tryd.prog 52 [] (lro a0.length 2 (List.flatMap lettC a0)) (i6 (↑i0:Int)))=some (AV.eaddr (AV.int IntKind.i32 a::AV.int IntKind.u32 c::r17),[]))
 (h2:decide (a ≤ 32)=true):vexec Tryd.prog X call lf 0 fg70 (loopN Tryd.f70 0) (f70_F0 a0 i0)=some (Ex.ret,(f70_S1 a0 i0 a c)) :=
  around_sound (ans:=[(1,Ans.b true),(4,Ans.v (AV.eaddr (AV.int IntKind.i32 a::AV.int IntKind.u32 c::r17))),(9,Ans.b true)]) (by kernel_rfl) (ai h0 (ai h1 (ai h2 trivial)))
theorem f70_pffltt (a0:List Lett)(X:Ext)(call:Caller)(lf i0:Nat)(a c:Int)
 (h0:decide ((↑a0.length:Int)<1)=false)
 (h1:decide ((↑a0.length:Int)>64)=false)
 (h2:vexec Tryd.prog X call lf 0 fg70 (Code.loop (loopN Tryd.f70 0)) (f70_S0 a0)=some (Ex.ret,(f70_S1 a0 i0 a c))):vbody Tryd.prog X call lf fg70 Tryd.f70 (codeOf Tryd.f70) [lettsV a0] [] 0=some (bo false,[]) :=
  along_sound (ans:=[(5,Ans.b false),(12,Ans.b false),(19,Ans.l Ex.ret (f70_S1 a0 i0 a c))]) (by kernel_rfl) (ai h0 (ai h1 (ai h2 trivial)))
theorem f70_s0_tft (a0:List Lett)(X:Ext)(call:Caller)(lf i0:Nat)(a c:Int)(r17:List AV)
 (h0:decide ((↑i0:Int)<(↑a0.length:Int))=true)
 (h1:keep [] (indexAddrv Tryd.prog 52 [] (lro a0.length 2 (List.flatMap lettC a0)) (i6 (↑i0:Int)))=some (AV.eaddr (AV.int IntKind.i32 a::AV.int IntKind.u32 c::r17),[]))
 (h2:decide (a ≤ 32)=false)
 (h3:callv X call false 91 [AV.int IntKind.i32 a] [] 0=some (bo true,[]))
 (e0:(↑(i0 + 1):Int)=w6 ((↑i0:Int) + 1)):∃ Sx,vexec Tryd.prog X call lf 0 fg70 (loopN Tryd.f70 0) (f70_F0 a0 i0)=some (Ex.normal,Sx)∧forget f70_D0 Sx=(f70_F0 a0 (i0 + 1)) :=
  ⟨stOf 35 [2,5,6,7,8,9,10,11,17,18,19,20,21,22,23,24,25,26,28] [(0,lro a0.length 2 (List.flatMap lettC a0)),(4,AV.eaddr [AV.int IntKind.i32 a,AV.int IntKind.u32 c]),(12,bo false),(13,lro a0.length 2 (List.flatMap lettC a0)),(14,i6 (↑a0.length:Int)),(15,i6 (w6 ((↑i0:Int) + 1))),(16,bo true),(27,bo false)] [],around_sound (ans:=[(1,Ans.b true),(4,Ans.v (AV.eaddr (AV.int IntKind.i32 a::AV.int IntKind.u32 c::r17))),(9,Ans.b false),(16,Ans.v (bo true))]) (by kernel_rfl) (ai h0 (ai h1 (ai h2 (ai h3 trivial)))),by unfold f70_F0; rw [e0]; show _=_; kernel_rfl⟩
theorem f70_r0_tff (a0:List Lett)(X:Ext)(call:Caller)(lf i0:Nat)(a c:Int)(r17:List AV)
 (h0:decide ((↑i0:Int)<(↑a0.length:Int))=true)
 (h1:keep [] (indexAddrv Tryd.prog 52 [] (lro a0.length 2 (List.flatMap lettC a0)) (i6 (↑i0:Int)))=some (AV.eaddr (AV.int IntKind.i32 a::AV.int IntKind.u32 c::r17),[]))
 (h2:decide (a ≤ 32)=false)
 (h3:callv X call false 91 [AV.int IntKind.i32 a] [] 0=some (bo false,[])):vexec Tryd.prog X call lf 0 fg70 (loopN Tryd.f70 0) (f70_F0 a0 i0)=some (Ex.ret,(f70_S1 a0 i0 a c)) :=
  around_sound (ans:=[(1,Ans.b true),(4,Ans.v (AV.eaddr (AV.int IntKind.i32 a::AV.int IntKind.u32 c::r17))),(9,Ans.b false),(16,Ans.v (bo false))]) (by kernel_rfl) (ai h0 (ai h1 (ai h2 (ai h3 trivial))))
theorem f70_pffltff (a0:List Lett)(X:Ext)(call:Caller)(lf i0:Nat)(a c:Int)
 (h0:decide ((↑a0.length:Int)<1)=false)
 (h1:decide ((↑a0.length:Int)>64)=false)
 (h2:vexec Tryd.prog X call lf 0 fg70 (Code.loop (loopN Tryd.f70 0)) (f70_S0 a0)=some (Ex.ret,(f70_S1 a0 i0 a c))):vbody Tryd.prog X call lf fg70 Tryd.f70 (codeOf Tryd.f70) [lettsV a0] [] 0=some (bo false,[]) :=
  along_sound (ans:=[(5,Ans.b false),(12,Ans.b false),(19,Ans.l Ex.ret (f70_S1 a0 i0 a c))]) (by kernel_rfl) (ai h0 (ai h1 (ai h2 trivial)))
def f70_S2 (a0:List Lett)(i0:Nat):St :=
  stOf 35 [2,4,5,6,7,8,9,10,11,17,18,19,20,21,22,23,24,25,26,27,28] [(0,lro a0.length 2 (List.flatMap lettC a0)),(12,bo false),(13,lro a0.length 2 (List.flatMap lettC a0)),(14,i6 (↑a0.length:Int)),(15,i6 (↑i0:Int)),(16,bo false)] []
theorem f70_r0_f (a0:List Lett)(X:Ext)(call:Caller)(lf i0:Nat)
 (h0:decide ((↑i0:Int)<(↑a0.length:Int))=false):vexec Tryd.prog X call lf 0 fg70 (loopN Tryd.f70 0) (f70_F0 a0 i0)=some (Ex.exit 0,(f70_S2 a0 i0)) :=
  around_sound (ans:=[(1,Ans.b false)]) (by kernel_rfl) (ai h0 trivial)
theorem f70_pfflft (a0:List Lett)(X:Ext)(call:Caller)(lf i0:Nat)
 (h0:decide ((↑a0.length:Int)<1)=false)
 (h1:decide ((↑a0.length:Int)>64)=false)
 (h2:vexec Tryd.prog X call lf 0 fg70 (Code.loop (loopN Tryd.f70 0)) (f70_S0 a0)=some (Ex.exit 0,(f70_S2 a0 i0)))
 (h3:callv X call false 92 [lro a0.length 2 (List.flatMap lettC a0)] [] 0=some (AV.map 0,[Ob.mapo (mapR (idxR a0 a0.length))]))
 (h4:((↑(List.length (mapR (idxR a0 a0.length))):Int) == (↑a0.length:Int))=true):vbody Tryd.prog X call lf fg70 Tryd.f70 (codeOf Tryd.f70) [lettsV a0] [] 0=some (bo true,[Ob.mapo (mapR (idxR a0 a0.length))]) :=
  along_sound (ans:=[(5,Ans.b false),(12,Ans.b false),(19,Ans.l (Ex.exit 0) (f70_S2 a0 i0)),(22,Ans.c (AV.map 0) [Ob.mapo (mapR (idxR a0 a0.length))]),(26,Ans.b true)]) (by kernel_rfl) (ai h0 (ai h1 (ai h2 (ai h3 (ai h4 trivial)))))
theorem f70_pfflff (a0:List Lett)(X:Ext)(call:Caller)(lf i0:Nat)
 (h0:decide ((↑a0.length:Int)<1)=false)
 (h1:decide ((↑a0.length:Int)>64)=false)
 (h2:vexec Tryd.prog X call lf 0 fg70 (Code.loop (loopN Tryd.f70 0)) (f70_S0 a0)=some (Ex.exit 0,(f70_S2 a0 i0)))
 (h3:callv X call false 92 [lro a0.length 2 (List.flatMap lettC a0)] [] 0=some (AV.map 0,[Ob.mapo (mapR (idxR a0 a0.length))]))
 (h4:((↑(List.length (mapR (idxR a0 a0.length))):Int) == (↑a0.length:Int))=false):vbody Tryd.prog X call lf fg70 Tryd.f70 (codeOf Tryd.f70) [lettsV a0] [] 0=some (bo false,[Ob.mapo (mapR (idxR a0 a0.length))]) :=
  along_sound (ans:=[(5,Ans.b false),(12,Ans.b false),(19,Ans.l (Ex.exit 0) (f70_S2 a0 i0)),(22,Ans.c (AV.map 0) [Ob.mapo (mapR (idxR a0 a0.length))]),(26,Ans.b false)]) (by kernel_rfl) (ai h0 (ai h1 (ai h2 (ai h3 (ai h4 trivial)))))
def f70_o0 (a0:List Lett)(i0:Nat)(a:Int)(b0:Bool):Nat :=
  (match decide ((↑i0:Int)<(↑a0.length:Int)) with
  | true=>(match decide (a ≤ 32) with
    | true=>1
    | false=>(match b0 with
      | true=>0
      | false=>1))
  | false=>2)
theorem f70_B0 (a0:List Lett)(X:Ext)(call:Caller)(lf i0:Nat)(a b:Int)(r17:List AV)(b0:Bool)
 (g0:decide ((↑i0:Int)<(↑a0.length:Int))=true→keep [] (indexAddrv Tryd.prog 52 [] (lro a0.length 2 (List.flatMap lettC a0)) (i6 (↑i0:Int)))=some (AV.eaddr (AV.int IntKind.i32 a::AV.int IntKind.u32 b::r17),[]))
 (g1:decide ((↑i0:Int)<(↑a0.length:Int))=true→decide (a ≤ 32)=false→callv X call false 91 [AV.int IntKind.i32 a] [] 0=some (bo b0,[]))
 (e0:decide ((↑i0:Int)<(↑a0.length:Int))=true→(↑(i0 + 1):Int)=w6 ((↑i0:Int) + 1)) :
    (f70_o0 a0 i0 a b0=0→∃ Sx,vexec Tryd.prog X call lf 0 fg70 (loopN Tryd.f70 0) (f70_F0 a0 i0)=some (Ex.normal,Sx)∧forget f70_D0 Sx=(f70_F0 a0 (i0 + 1)))∧(f70_o0 a0 i0 a b0=1→vexec Tryd.prog X call lf 0 fg70 (loopN Tryd.f70 0) (f70_F0 a0 i0)=some (Ex.ret,(f70_S1 a0 i0 a b)))∧(f70_o0 a0 i0 a b0=2→vexec Tryd.prog X call lf 0 fg70 (loopN Tryd.f70 0) (f70_F0 a0 i0)=some (Ex.exit 0,(f70_S2 a0 i0))):=by
  unfold f70_o0
  cases c0:decide ((↑i0:Int)<(↑a0.length:Int)) with
  | true =>
    cases c1:decide (a ≤ 32) with
    | true =>
      exact ⟨fun h=>absurd (show (1:Nat)=0 from h) (by decide),fun _=>f70_r0_tt a0 X call lf i0 a b r17 c0 (g0 c0) c1,fun h=>absurd (show (1:Nat)=2 from h) (by decide)⟩
    | false =>
      cases c2:b0 with
      | true =>
        exact ⟨fun _=>f70_s0_tft a0 X call lf i0 a b r17 c0 (g0 c0) c1 (by have:=(g1 c0 c1); rw [c2] at this; exact this) (e0 c0),fun h=>absurd (show (0:Nat)=1 from h) (by decide),fun h=>absurd (show (0:Nat)=2 from h) (by decide)⟩
      | false =>
        exact ⟨fun h=>absurd (show (1:Nat)=0 from h) (by decide),fun _=>f70_r0_tff a0 X call lf i0 a b r17 c0 (g0 c0) c1 (by have:=(g1 c0 c1); rw [c2] at this; exact this),fun h=>absurd (show (1:Nat)=2 from h) (by decide)⟩
  | false =>
    exact ⟨fun h=>absurd (show (2:Nat)=0 from h) (by decide),fun h=>absurd (show (2:Nat)=1 from h) (by decide),fun _=>f70_r0_f a0 X call lf i0 c0⟩
theorem f70_X0 (a0:List Lett)(X:Ext)(call:Caller)(lf i0:Nat)(a b:Int)(r17:List AV)(b0:Bool)
 (g0:decide ((↑i0:Int)<(↑a0.length:Int))=true→keep [] (indexAddrv Tryd.prog 52 [] (lro a0.length 2 (List.flatMap lettC a0)) (i6 (↑i0:Int)))=some (AV.eaddr (AV.int IntKind.i32 a::AV.int IntKind.u32 b::r17),[]))
 (g1:decide ((↑i0:Int)<(↑a0.length:Int))=true→decide (a ≤ 32)=false→callv X call false 91 [AV.int IntKind.i32 a] [] 0=some (bo b0,[])) :
    (f70_o0 a0 i0 a b0=1→vexec Tryd.prog X call lf 0 fg70 (loopN Tryd.f70 0) (f70_F0 a0 i0)=some (Ex.ret,(f70_S1 a0 i0 a b)))∧(f70_o0 a0 i0 a b0=2→vexec Tryd.prog X call lf 0 fg70 (loopN Tryd.f70 0) (f70_F0 a0 i0)=some (Ex.exit 0,(f70_S2 a0 i0))):=by
  unfold f70_o0
  cases c0:decide ((↑i0:Int)<(↑a0.length:Int)) with
  | true =>
    cases c1:decide (a ≤ 32) with
    | true =>
      exact ⟨fun _=>f70_r0_tt a0 X call lf i0 a b r17 c0 (g0 c0) c1,fun h=>absurd (show (1:Nat)=2 from h) (by decide)⟩
    | false =>
      cases c2:b0 with
      | true =>
        exact ⟨fun h=>absurd (show (0:Nat)=1 from h) (by decide),fun h=>absurd (show (0:Nat)=2 from h) (by decide)⟩
      | false =>
        exact ⟨fun _=>f70_r0_tff a0 X call lf i0 a b r17 c0 (g0 c0) c1 (by have:=(g1 c0 c1); rw [c2] at this; exact this),fun h=>absurd (show (1:Nat)=2 from h) (by decide)⟩
  | false =>
    exact ⟨fun h=>absurd (show (2:Nat)=1 from h) (by decide),fun _=>f70_r0_f a0 X call lf i0 c0⟩
theorem f70_M (a0:List Lett)(X:Ext)(call:Caller)(lf n:Nat)(a b:Nat→Int)(r17:Nat→List AV)(b0:Nat→Bool)
 (hn:n<lf)
 (g0:∀ i0,i0 ≤ n→decide ((↑i0:Int)<(↑a0.length:Int))=true→keep [] (indexAddrv Tryd.prog 52 [] (lro a0.length 2 (List.flatMap lettC a0)) (i6 (↑i0:Int)))=some (AV.eaddr (AV.int IntKind.i32 (a i0)::AV.int IntKind.u32 (b i0)::(r17 i0)),[]))
 (g1:∀ i0,i0 ≤ n→decide ((↑i0:Int)<(↑a0.length:Int))=true→decide ((a i0) ≤ 32)=false→callv X call false 91 [AV.int IntKind.i32 (a i0)] [] 0=some (bo (b0 i0),[]))
 (e0:∀ i0,i0<n→decide ((↑i0:Int)<(↑a0.length:Int))=true→(↑(i0 + 1):Int)=w6 ((↑i0:Int) + 1))
 (hz:∀ j,j<n→f70_o0 a0 j (a j) (b0 j)=0) :
    (f70_o0 a0 n (a n) (b0 n)=1→decide ((↑a0.length:Int)<1)=false→decide ((↑a0.length:Int)>64)=false→vbody Tryd.prog X call lf fg70 Tryd.f70 (codeOf Tryd.f70) [lettsV a0] [] 0=some (bo false,[]))∧(f70_o0 a0 n (a n) (b0 n)=1→decide ((↑a0.length:Int)<1)=false→decide ((↑a0.length:Int)>64)=false→vbody Tryd.prog X call lf fg70 Tryd.f70 (codeOf Tryd.f70) [lettsV a0] [] 0=some (bo false,[]))∧(f70_o0 a0 n (a n) (b0 n)=2→decide ((↑a0.length:Int)<1)=false→decide ((↑a0.length:Int)>64)=false→callv X call false 92 [lro a0.length 2 (List.flatMap lettC a0)] [] 0=some (AV.map 0,[Ob.mapo (mapR (idxR a0 a0.length))])→((↑(List.length (mapR (idxR a0 a0.length))):Int) == (↑a0.length:Int))=true→vbody Tryd.prog X call lf fg70 Tryd.f70 (codeOf Tryd.f70) [lettsV a0] [] 0=some (bo true,[Ob.mapo (mapR (idxR a0 a0.length))]))∧(f70_o0 a0 n (a n) (b0 n)=2→decide ((↑a0.length:Int)<1)=false→decide ((↑a0.length:Int)>64)=false→callv X call false 92 [lro a0.length 2 (List.flatMap lettC a0)] [] 0=some (AV.map 0,[Ob.mapo (mapR (idxR a0 a0.length))])→((↑(List.length (mapR (idxR a0 a0.length))):Int) == (↑a0.length:Int))=false→vbody Tryd.prog X call lf fg70 Tryd.f70 (codeOf Tryd.f70) [lettsV a0] [] 0=some (bo false,[Ob.mapo (mapR (idxR a0 a0.length))])):=by
  have key:∀ j,j<n→_:=fun j hj=>(f70_B0 a0 X call lf j (a j) (b j) (r17 j) (b0 j) (g0 j (Nat.le_of_lt hj)) (g1 j (Nat.le_of_lt hj)) (e0 j hj)).1 (hz j hj)
  have kn:=f70_X0 a0 X call lf n (a n) (b n) (r17 n) (b0 n) (g0 n (Nat.le_refl n)) (g1 n (Nat.le_refl n))
  exact ⟨fun hk q0 q1=>f70_pffltt a0 X call lf n (a n) (b n) q0 q1 (f70_L0 a0 X call lf n _ _ hn key (kn.1 hk) (by simp)),
    fun hk q0 q1=>f70_pffltff a0 X call lf n (a n) (b n) q0 q1 (f70_L0 a0 X call lf n _ _ hn key (kn.1 hk) (by simp)),
    fun hk q0 q1 q2 q3=>f70_pfflft a0 X call lf n q0 q1 (f70_L0 a0 X call lf n _ _ hn key (kn.2 hk) (by simp)) q2 q3,
    fun hk q0 q1 q2 q3=>f70_pfflff a0 X call lf n q0 q1 (f70_L0 a0 X call lf n _ _ hn key (kn.2 hk) (by simp)) q2 q3⟩
def fg38:Nat→List Nat
  | 1=>[8,9,10,11,12,13,14]
  | 6=>[21,22]
  | 7=>[23,24,25,26,27,28,29,30,31,32,33,34,35,36,37,38,39,40,41,42,43,44,45,46,47,48,49,50,51,52,53,54,55,56,57,58,59,60,61]
  | 9=>[63,64,65]
  | 10=>[66]
  | 5006=>[1]
  | _=>[]
theorem f38_ptt (a0:List Lett)(x0:List Lexm)(X:Ext)(call:Caller)(lf:Nat)
 (h0:callv X call false 70 [lro a0.length 2 (List.flatMap lettC a0)] [] 0=some (bo true,[]))
 (h1:decide ((↑x0.length:Int)>256)=true):vbody Tryd.prog X call lf fg38 Tryd.f38 (codeOf Tryd.f38) [lettsV a0,lexsV x0] [] 0=some (bo false,[]) :=
  along_sound (ans:=[(4,Ans.v (bo true)),(12,Ans.b true)]) (by kernel_rfl) (ai h0 (ai h1 trivial))
def f38_F0 (a0:List Lett)(x0:List Lexm)(i0:Nat):St :=
  stOf 67 [4,7,8,9,10,11,12,13,14,20,21,22,23,24,25,26,27,28,29,30,31,32,33,34,35,36,37,38,39,40,41,42,43,44,45,46,47,48,49,50,51,52,53,54,55,56,57,58,59,60,61,62,63,64,65,66] [(0,lro a0.length 2 (List.flatMap lettC a0)),(1,lro x0.length 5 (List.flatMap lexC x0)),(5,AV.map 0),(15,bo false),(16,AV.map 0),(17,lro x0.length 5 (List.flatMap lexC x0)),(18,i6 (↑x0.length:Int)),(19,i6 (↑i0:Int))] [Ob.mapo (idsR x0 i0)]
def f38_S0 (a0:List Lett)(x0:List Lexm):St :=
  stOf 67 [8,9,10,11,12,13,14] [(0,lro a0.length 2 (List.flatMap lettC a0)),(1,lro x0.length 5 (List.flatMap lexC x0)),(4,bo false),(5,AV.map 0),(15,bo false),(16,AV.map 0),(17,lro x0.length 5 (List.flatMap lexC x0)),(18,i6 (↑x0.length:Int)),(19,i6 0)] [Ob.mapo []]
abbrev f38_D0:List Nat:=[66,65,64,63,4,62,61,60,59,58,57,56,55,54,53,52,51,50,49,48,47,46,45,44,43,42,41,40,39,38,37,36,35,34,33,32,31,30,29,28,27,26,25,24,23,7,22,21,20]
theorem f38_L0 (a0:List Lett)(x0:List Lexm)(X:Ext)(call:Caller)(lf n:Nat)(x:Ex) (S' : St)
 (hn:n<lf)
 (hs:∀ j,j<n→∃ Sx,vexec Tryd.prog X call lf 0 fg38 (loopN Tryd.f38 0) (f38_F0 a0 x0 j)=some (Ex.normal,Sx)∧forget f38_D0 Sx=(f38_F0 a0 x0 (j + 1)))
 (he:vexec Tryd.prog X call lf 0 fg38 (loopN Tryd.f38 0) (f38_F0 a0 x0 n)=some (x,S'))
 (hx:x ≠ Ex.normal):vexec Tryd.prog X call lf 0 fg38 (Go.Code.loop (loopN Tryd.f38 0)) (f38_S0 a0 x0)=some (x,S') :=
  loop_runK (by kernel_rfl) (fun j=>(f38_F0 a0 x0 j)) n hn (by show forget f38_D0 (f38_S0 a0 x0)=(f38_F0 a0 x0 0); unfold f38_F0; show _=_; kernel_rfl) hs he hx
def f38_S1 (a0:List Lett)(x0:List Lexm)(i0:Nat)(a b c d:ByteArray)(e:Nat)(g:List AV):St :=
  stOf 67 [8,9,10,11,12,13,14,21,22,23,24,25,26,27,28,29,30,31,32,33,34,35,36,37,38,39,40,41,42,43,44,45,46,47,48,49,50,51,52,53,54,55,56,57,58,59,60,61,63,64,65,66] [(0,lro a0.length 2 (List.flatMap lettC a0)),(1,lro x0.length 5 (List.flatMap lexC x0)),(4,bo false),(5,AV.map 0),(7,AV.eaddr [st a,st b,st c,st d,lro e 2 g]),(15,bo false),(16,AV.map 0),(17,lro x0.length 5 (List.flatMap lexC x0)),(18,i6 (↑x0.length:Int)),(19,i6 (↑i0:Int)),(20,bo true),(62,bo true)] [Ob.mapo (idsR x0 i0)]
theorem f38_r0_tt (a0:List Lett)(x0:List Lexm)(X:Ext)(call:Caller)(lf i0:Nat)(a c d e:ByteArray)(g:Nat)(h r21:List AV)
 (h0:decide ((↑i0:Int)<(↑x0.length:Int))=true)
 (h1:keep [Ob.mapo (idsR x0 i0)] (indexAddrv Tryd.prog 22 [Ob.mapo (idsR x0 i0)] (lro x0.length 5 (List.flatMap lexC x0)) (i6 (↑i0:Int)))=some (AV.eaddr (st a::st c::st d::st e::lro g 2 h::r21),[Ob.mapo (idsR x0 i0)]))
 (h2:keep [Ob.mapo (idsR x0 i0)] (lookupv Tryd.prog 58 [Ob.mapo (idsR x0 i0)] (AV.map 0) (st a) false)=some (bo true,[Ob.mapo (idsR x0 i0)])):vexec Tryd.prog X call lf 0 fg38 (loopN Tryd.f38 0) (f38_F0 a0 x0 i0)=some (Ex.ret,(f38_S1 a0 x0 i0 a c d e g h)) :=
  around_sound (ans:=[(1,Ans.b true),(4,Ans.v (AV.eaddr (st a::st c::st d::st e::lro g 2 h::r21))),(10,Ans.v (bo true))]) (by kernel_rfl) (ai h0 (ai h1 (ai h2 trivial)))
theorem f38_ptfltt (a0:List Lett)(x0:List Lexm)(X:Ext)(call:Caller)(lf i0:Nat)(a c d e:ByteArray)(g:Nat)(h:List AV)
 (h0:callv X call false 70 [lro a0.length 2 (List.flatMap lettC a0)] [] 0=some (bo true,[]))
 (h1:decide ((↑x0.length:Int)>256)=false)
 (h2:vexec Tryd.prog X call lf 0 fg38 (Code.loop (loopN Tryd.f38 0)) (f38_S0 a0 x0)=some (Ex.ret,(f38_S1 a0 x0 i0 a c d e g h))):vbody Tryd.prog X call lf fg38 Tryd.f38 (codeOf Tryd.f38) [lettsV a0,lexsV x0] [] 0=some (bo false,[Ob.mapo (idsR x0 i0)]) :=
  along_sound (ans:=[(4,Ans.v (bo true)),(12,Ans.b false),(22,Ans.l Ex.ret (f38_S1 a0 x0 i0 a c d e g h))]) (by kernel_rfl) (ai h0 (ai h1 (ai h2 trivial)))
theorem f38_s0_tftttttt (a0:List Lett)(x0:List Lexm)(X:Ext)(call:Caller)(lf i0:Nat)(a d e g:ByteArray)(h:Nat)(j r21:List AV)(sq78:List Ob)
 (h0:decide ((↑i0:Int)<(↑x0.length:Int))=true)
 (h1:keep [Ob.mapo (idsR x0 i0)] (indexAddrv Tryd.prog 22 [Ob.mapo (idsR x0 i0)] (lro x0.length 5 (List.flatMap lexC x0)) (i6 (↑i0:Int)))=some (AV.eaddr (st a::st d::st e::st g::lro h 2 j::r21),[Ob.mapo (idsR x0 i0)]))
 (h2:keep [Ob.mapo (idsR x0 i0)] (lookupv Tryd.prog 58 [Ob.mapo (idsR x0 i0)] (AV.map 0) (st a) false)=some (bo false,[Ob.mapo (idsR x0 i0)]))
 (h3:callv X call false 43 [st a] [Ob.mapo (idsR x0 i0)] 0=some (bo true,[Ob.mapo (idsR x0 i0)]))
 (h4:callv X call false 43 [st d] [Ob.mapo (idsR x0 i0)] 0=some (bo true,[Ob.mapo (idsR x0 i0)]))
 (h5:(!ByteArray.toList g == ByteArray.toList (ByteArray.mk #[]))=true)
 (h6:callv X call false 43 [st g] [Ob.mapo (idsR x0 i0)] 0=some (bo true,[Ob.mapo (idsR x0 i0)]))
 (h7:callv X call false 71 [lro a0.length 2 (List.flatMap lettC a0),st e] [Ob.mapo (idsR x0 i0)] 0=some (bo true,[Ob.mapo (idsR x0 i0)]))
 (h8:callv X call false 45 [lro h 2 j] [Ob.mapo (idsR x0 i0)] 0=some (bo true,[Ob.mapo (idsR x0 i0)]))
 (h9:unit1 (mapUpdatev Tryd.prog 58 [Ob.mapo (idsR x0 i0)] 0 (AV.map 0) (st a) (bo true))=some (AV.undef,sq78))
 (e0:(↑(i0 + 1):Int)=w6 ((↑i0:Int) + 1))
 (e1:[Ob.mapo (idsR x0 (i0 + 1))]=sq78):∃ Sx,vexec Tryd.prog X call lf 0 fg38 (loopN Tryd.f38 0) (f38_F0 a0 x0 i0)=some (Ex.normal,Sx)∧forget f38_D0 Sx=(f38_F0 a0 x0 (i0 + 1)) :=
  ⟨stOf 67 [4,8,9,10,11,12,13,14,21,22,23,24,25,26,27,28,29,30,31,32,33,34,35,36,37,38,39,40,41,42,43,44,45,46,47,48,49,50,51,52,53,54,55,56,57,58,59,60,61,63,64,65,66] [(0,lro a0.length 2 (List.flatMap lettC a0)),(1,lro x0.length 5 (List.flatMap lexC x0)),(5,AV.map 0),(7,AV.eaddr [st a,st d,st e,st g,lro h 2 j]),(15,bo false),(16,AV.map 0),(17,lro x0.length 5 (List.flatMap lexC x0)),(18,i6 (↑x0.length:Int)),(19,i6 (w6 ((↑i0:Int) + 1))),(20,bo true),(62,bo false)] sq78,around_sound (ans:=[(1,Ans.b true),(4,Ans.v (AV.eaddr (st a::st d::st e::st g::lro h 2 j::r21))),(10,Ans.v (bo false)),(17,Ans.v (bo true)),(27,Ans.v (bo true)),(37,Ans.b true),(45,Ans.v (bo true)),(59,Ans.v (bo true)),(69,Ans.v (bo true)),(78,Ans.c AV.undef sq78)]) (by kernel_rfl) (ai h0 (ai h1 (ai h2 (ai h3 (ai h4 (ai h5 (ai h6 (ai h7 (ai h8 (ai h9 trivial)))))))))),by unfold f38_F0; rw [e0,e1]; show _=_; kernel_rfl⟩
theorem f38_r0_tftttttf (a0:List Lett)(x0:List Lexm)(X:Ext)(call:Caller)(lf i0:Nat)(a c d e:ByteArray)(g:Nat)(h r21:List AV)
 (h0:decide ((↑i0:Int)<(↑x0.length:Int))=true)
 (h1:keep [Ob.mapo (idsR x0 i0)] (indexAddrv Tryd.prog 22 [Ob.mapo (idsR x0 i0)] (lro x0.length 5 (List.flatMap lexC x0)) (i6 (↑i0:Int)))=some (AV.eaddr (st a::st c::st d::st e::lro g 2 h::r21),[Ob.mapo (idsR x0 i0)]))
 (h2:keep [Ob.mapo (idsR x0 i0)] (lookupv Tryd.prog 58 [Ob.mapo (idsR x0 i0)] (AV.map 0) (st a) false)=some (bo false,[Ob.mapo (idsR x0 i0)]))
 (h3:callv X call false 43 [st a] [Ob.mapo (idsR x0 i0)] 0=some (bo true,[Ob.mapo (idsR x0 i0)]))
 (h4:callv X call false 43 [st c] [Ob.mapo (idsR x0 i0)] 0=some (bo true,[Ob.mapo (idsR x0 i0)]))
 (h5:(!ByteArray.toList e == ByteArray.toList (ByteArray.mk #[]))=true)
 (h6:callv X call false 43 [st e] [Ob.mapo (idsR x0 i0)] 0=some (bo true,[Ob.mapo (idsR x0 i0)]))
 (h7:callv X call false 71 [lro a0.length 2 (List.flatMap lettC a0),st d] [Ob.mapo (idsR x0 i0)] 0=some (bo true,[Ob.mapo (idsR x0 i0)]))
 (h8:callv X call false 45 [lro g 2 h] [Ob.mapo (idsR x0 i0)] 0=some (bo false,[Ob.mapo (idsR x0 i0)])):vexec Tryd.prog X call lf 0 fg38 (loopN Tryd.f38 0) (f38_F0 a0 x0 i0)=some (Ex.ret,(f38_S1 a0 x0 i0 a c d e g h)) :=
  around_sound (ans:=[(1,Ans.b true),(4,Ans.v (AV.eaddr (st a::st c::st d::st e::lro g 2 h::r21))),(10,Ans.v (bo false)),(17,Ans.v (bo true)),(27,Ans.v (bo true)),(37,Ans.b true),(45,Ans.v (bo true)),(59,Ans.v (bo true)),(69,Ans.v (bo false))]) (by kernel_rfl) (ai h0 (ai h1 (ai h2 (ai h3 (ai h4 (ai h5 (ai h6 (ai h7 (ai h8 trivial)))))))))
theorem f38_ptfltftttttf (a0:List Lett)(x0:List Lexm)(X:Ext)(call:Caller)(lf i0:Nat)(a c d e:ByteArray)(g:Nat)(h:List AV)
 (h0:callv X call false 70 [lro a0.length 2 (List.flatMap lettC a0)] [] 0=some (bo true,[]))
 (h1:decide ((↑x0.length:Int)>256)=false)
 (h2:vexec Tryd.prog X call lf 0 fg38 (Code.loop (loopN Tryd.f38 0)) (f38_S0 a0 x0)=some (Ex.ret,(f38_S1 a0 x0 i0 a c d e g h))):vbody Tryd.prog X call lf fg38 Tryd.f38 (codeOf Tryd.f38) [lettsV a0,lexsV x0] [] 0=some (bo false,[Ob.mapo (idsR x0 i0)]) :=
  along_sound (ans:=[(4,Ans.v (bo true)),(12,Ans.b false),(22,Ans.l Ex.ret (f38_S1 a0 x0 i0 a c d e g h))]) (by kernel_rfl) (ai h0 (ai h1 (ai h2 trivial)))
theorem f38_r0_tfttttf (a0:List Lett)(x0:List Lexm)(X:Ext)(call:Caller)(lf i0:Nat)(a c d e:ByteArray)(g:Nat)(h r21:List AV)
 (h0:decide ((↑i0:Int)<(↑x0.length:Int))=true)
 (h1:keep [Ob.mapo (idsR x0 i0)] (indexAddrv Tryd.prog 22 [Ob.mapo (idsR x0 i0)] (lro x0.length 5 (List.flatMap lexC x0)) (i6 (↑i0:Int)))=some (AV.eaddr (st a::st c::st d::st e::lro g 2 h::r21),[Ob.mapo (idsR x0 i0)]))
 (h2:keep [Ob.mapo (idsR x0 i0)] (lookupv Tryd.prog 58 [Ob.mapo (idsR x0 i0)] (AV.map 0) (st a) false)=some (bo false,[Ob.mapo (idsR x0 i0)]))
 (h3:callv X call false 43 [st a] [Ob.mapo (idsR x0 i0)] 0=some (bo true,[Ob.mapo (idsR x0 i0)]))
 (h4:callv X call false 43 [st c] [Ob.mapo (idsR x0 i0)] 0=some (bo true,[Ob.mapo (idsR x0 i0)]))
 (h5:(!ByteArray.toList e == ByteArray.toList (ByteArray.mk #[]))=true)
 (h6:callv X call false 43 [st e] [Ob.mapo (idsR x0 i0)] 0=some (bo true,[Ob.mapo (idsR x0 i0)]))
 (h7:callv X call false 71 [lro a0.length 2 (List.flatMap lettC a0),st d] [Ob.mapo (idsR x0 i0)] 0=some (bo false,[Ob.mapo (idsR x0 i0)])):vexec Tryd.prog X call lf 0 fg38 (loopN Tryd.f38 0) (f38_F0 a0 x0 i0)=some (Ex.ret,(f38_S1 a0 x0 i0 a c d e g h)) :=
  around_sound (ans:=[(1,Ans.b true),(4,Ans.v (AV.eaddr (st a::st c::st d::st e::lro g 2 h::r21))),(10,Ans.v (bo false)),(17,Ans.v (bo true)),(27,Ans.v (bo true)),(37,Ans.b true),(45,Ans.v (bo true)),(59,Ans.v (bo false))]) (by kernel_rfl) (ai h0 (ai h1 (ai h2 (ai h3 (ai h4 (ai h5 (ai h6 (ai h7 trivial))))))))
theorem f38_ptfltfttttf (a0:List Lett)(x0:List Lexm)(X:Ext)(call:Caller)(lf i0:Nat)(a c d e:ByteArray)(g:Nat)(h:List AV)
 (h0:callv X call false 70 [lro a0.length 2 (List.flatMap lettC a0)] [] 0=some (bo true,[]))
 (h1:decide ((↑x0.length:Int)>256)=false)
 (h2:vexec Tryd.prog X call lf 0 fg38 (Code.loop (loopN Tryd.f38 0)) (f38_S0 a0 x0)=some (Ex.ret,(f38_S1 a0 x0 i0 a c d e g h))):vbody Tryd.prog X call lf fg38 Tryd.f38 (codeOf Tryd.f38) [lettsV a0,lexsV x0] [] 0=some (bo false,[Ob.mapo (idsR x0 i0)]) :=
  along_sound (ans:=[(4,Ans.v (bo true)),(12,Ans.b false),(22,Ans.l Ex.ret (f38_S1 a0 x0 i0 a c d e g h))]) (by kernel_rfl) (ai h0 (ai h1 (ai h2 trivial)))
theorem f38_r0_tftttf (a0:List Lett)(x0:List Lexm)(X:Ext)(call:Caller)(lf i0:Nat)(a c d e:ByteArray)(g:Nat)(h r21:List AV)
 (h0:decide ((↑i0:Int)<(↑x0.length:Int))=true)
 (h1:keep [Ob.mapo (idsR x0 i0)] (indexAddrv Tryd.prog 22 [Ob.mapo (idsR x0 i0)] (lro x0.length 5 (List.flatMap lexC x0)) (i6 (↑i0:Int)))=some (AV.eaddr (st a::st c::st d::st e::lro g 2 h::r21),[Ob.mapo (idsR x0 i0)]))
 (h2:keep [Ob.mapo (idsR x0 i0)] (lookupv Tryd.prog 58 [Ob.mapo (idsR x0 i0)] (AV.map 0) (st a) false)=some (bo false,[Ob.mapo (idsR x0 i0)]))
 (h3:callv X call false 43 [st a] [Ob.mapo (idsR x0 i0)] 0=some (bo true,[Ob.mapo (idsR x0 i0)]))
 (h4:callv X call false 43 [st c] [Ob.mapo (idsR x0 i0)] 0=some (bo true,[Ob.mapo (idsR x0 i0)]))
 (h5:(!ByteArray.toList e == ByteArray.toList (ByteArray.mk #[]))=true)
 (h6:callv X call false 43 [st e] [Ob.mapo (idsR x0 i0)] 0=some (bo false,[Ob.mapo (idsR x0 i0)])):vexec Tryd.prog X call lf 0 fg38 (loopN Tryd.f38 0) (f38_F0 a0 x0 i0)=some (Ex.ret,(f38_S1 a0 x0 i0 a c d e g h)) :=
  around_sound (ans:=[(1,Ans.b true),(4,Ans.v (AV.eaddr (st a::st c::st d::st e::lro g 2 h::r21))),(10,Ans.v (bo false)),(17,Ans.v (bo true)),(27,Ans.v (bo true)),(37,Ans.b true),(45,Ans.v (bo false))]) (by kernel_rfl) (ai h0 (ai h1 (ai h2 (ai h3 (ai h4 (ai h5 (ai h6 trivial)))))))
theorem f38_ptfltftttf (a0:List Lett)(x0:List Lexm)(X:Ext)(call:Caller)(lf i0:Nat)(a c d e:ByteArray)(g:Nat)(h:List AV)
 (h0:callv X call false 70 [lro a0.length 2 (List.flatMap lettC a0)] [] 0=some (bo true,[]))
 (h1:decide ((↑x0.length:Int)>256)=false)
 (h2:vexec Tryd.prog X call lf 0 fg38 (Code.loop (loopN Tryd.f38 0)) (f38_S0 a0 x0)=some (Ex.ret,(f38_S1 a0 x0 i0 a c d e g h))):vbody Tryd.prog X call lf fg38 Tryd.f38 (codeOf Tryd.f38) [lettsV a0,lexsV x0] [] 0=some (bo false,[Ob.mapo (idsR x0 i0)]) :=
  along_sound (ans:=[(4,Ans.v (bo true)),(12,Ans.b false),(22,Ans.l Ex.ret (f38_S1 a0 x0 i0 a c d e g h))]) (by kernel_rfl) (ai h0 (ai h1 (ai h2 trivial)))
theorem f38_s0_tfttftt (a0:List Lett)(x0:List Lexm)(X:Ext)(call:Caller)(lf i0:Nat)(a d e g:ByteArray)(h:Nat)(j r21:List AV)(sq74:List Ob)
 (h0:decide ((↑i0:Int)<(↑x0.length:Int))=true)
 (h1:keep [Ob.mapo (idsR x0 i0)] (indexAddrv Tryd.prog 22 [Ob.mapo (idsR x0 i0)] (lro x0.length 5 (List.flatMap lexC x0)) (i6 (↑i0:Int)))=some (AV.eaddr (st a::st d::st e::st g::lro h 2 j::r21),[Ob.mapo (idsR x0 i0)]))
 (h2:keep [Ob.mapo (idsR x0 i0)] (lookupv Tryd.prog 58 [Ob.mapo (idsR x0 i0)] (AV.map 0) (st a) false)=some (bo false,[Ob.mapo (idsR x0 i0)]))
 (h3:callv X call false 43 [st a] [Ob.mapo (idsR x0 i0)] 0=some (bo true,[Ob.mapo (idsR x0 i0)]))
 (h4:callv X call false 43 [st d] [Ob.mapo (idsR x0 i0)] 0=some (bo true,[Ob.mapo (idsR x0 i0)]))
 (h5:(!ByteArray.toList g == ByteArray.toList (ByteArray.mk #[]))=false)
 (h6:callv X call false 71 [lro a0.length 2 (List.flatMap lettC a0),st e] [Ob.mapo (idsR x0 i0)] 0=some (bo true,[Ob.mapo (idsR x0 i0)]))
 (h7:callv X call false 45 [lro h 2 j] [Ob.mapo (idsR x0 i0)] 0=some (bo true,[Ob.mapo (idsR x0 i0)]))
 (h8:unit1 (mapUpdatev Tryd.prog 58 [Ob.mapo (idsR x0 i0)] 0 (AV.map 0) (st a) (bo true))=some (AV.undef,sq74))
 (e0:(↑(i0 + 1):Int)=w6 ((↑i0:Int) + 1))
 (e1:[Ob.mapo (idsR x0 (i0 + 1))]=sq74):∃ Sx,vexec Tryd.prog X call lf 0 fg38 (loopN Tryd.f38 0) (f38_F0 a0 x0 i0)=some (Ex.normal,Sx)∧forget f38_D0 Sx=(f38_F0 a0 x0 (i0 + 1)) :=
  ⟨stOf 67 [4,8,9,10,11,12,13,14,21,22,23,24,25,26,27,28,29,30,31,32,33,34,35,36,37,38,39,40,41,42,43,44,45,46,47,48,49,50,51,52,53,54,55,56,57,58,59,60,61,63,64,65,66] [(0,lro a0.length 2 (List.flatMap lettC a0)),(1,lro x0.length 5 (List.flatMap lexC x0)),(5,AV.map 0),(7,AV.eaddr [st a,st d,st e,st g,lro h 2 j]),(15,bo false),(16,AV.map 0),(17,lro x0.length 5 (List.flatMap lexC x0)),(18,i6 (↑x0.length:Int)),(19,i6 (w6 ((↑i0:Int) + 1))),(20,bo true),(62,bo false)] sq74,around_sound (ans:=[(1,Ans.b true),(4,Ans.v (AV.eaddr (st a::st d::st e::st g::lro h 2 j::r21))),(10,Ans.v (bo false)),(17,Ans.v (bo true)),(27,Ans.v (bo true)),(37,Ans.b false),(55,Ans.v (bo true)),(65,Ans.v (bo true)),(74,Ans.c AV.undef sq74)]) (by kernel_rfl) (ai h0 (ai h1 (ai h2 (ai h3 (ai h4 (ai h5 (ai h6 (ai h7 (ai h8 trivial))))))))),by unfold f38_F0; rw [e0,e1]; show _=_; kernel_rfl⟩
theorem f38_r0_tfttftf (a0:List Lett)(x0:List Lexm)(X:Ext)(call:Caller)(lf i0:Nat)(a c d e:ByteArray)(g:Nat)(h r21:List AV)
 (h0:decide ((↑i0:Int)<(↑x0.length:Int))=true)
 (h1:keep [Ob.mapo (idsR x0 i0)] (indexAddrv Tryd.prog 22 [Ob.mapo (idsR x0 i0)] (lro x0.length 5 (List.flatMap lexC x0)) (i6 (↑i0:Int)))=some (AV.eaddr (st a::st c::st d::st e::lro g 2 h::r21),[Ob.mapo (idsR x0 i0)]))
 (h2:keep [Ob.mapo (idsR x0 i0)] (lookupv Tryd.prog 58 [Ob.mapo (idsR x0 i0)] (AV.map 0) (st a) false)=some (bo false,[Ob.mapo (idsR x0 i0)]))
 (h3:callv X call false 43 [st a] [Ob.mapo (idsR x0 i0)] 0=some (bo true,[Ob.mapo (idsR x0 i0)]))
 (h4:callv X call false 43 [st c] [Ob.mapo (idsR x0 i0)] 0=some (bo true,[Ob.mapo (idsR x0 i0)]))
 (h5:(!ByteArray.toList e == ByteArray.toList (ByteArray.mk #[]))=false)
 (h6:callv X call false 71 [lro a0.length 2 (List.flatMap lettC a0),st d] [Ob.mapo (idsR x0 i0)] 0=some (bo true,[Ob.mapo (idsR x0 i0)]))
 (h7:callv X call false 45 [lro g 2 h] [Ob.mapo (idsR x0 i0)] 0=some (bo false,[Ob.mapo (idsR x0 i0)])):vexec Tryd.prog X call lf 0 fg38 (loopN Tryd.f38 0) (f38_F0 a0 x0 i0)=some (Ex.ret,(f38_S1 a0 x0 i0 a c d e g h)) :=
  around_sound (ans:=[(1,Ans.b true),(4,Ans.v (AV.eaddr (st a::st c::st d::st e::lro g 2 h::r21))),(10,Ans.v (bo false)),(17,Ans.v (bo true)),(27,Ans.v (bo true)),(37,Ans.b false),(55,Ans.v (bo true)),(65,Ans.v (bo false))]) (by kernel_rfl) (ai h0 (ai h1 (ai h2 (ai h3 (ai h4 (ai h5 (ai h6 (ai h7 trivial))))))))
theorem f38_ptfltfttftf (a0:List Lett)(x0:List Lexm)(X:Ext)(call:Caller)(lf i0:Nat)(a c d e:ByteArray)(g:Nat)(h:List AV)
 (h0:callv X call false 70 [lro a0.length 2 (List.flatMap lettC a0)] [] 0=some (bo true,[]))
 (h1:decide ((↑x0.length:Int)>256)=false)
 (h2:vexec Tryd.prog X call lf 0 fg38 (Code.loop (loopN Tryd.f38 0)) (f38_S0 a0 x0)=some (Ex.ret,(f38_S1 a0 x0 i0 a c d e g h))):vbody Tryd.prog X call lf fg38 Tryd.f38 (codeOf Tryd.f38) [lettsV a0,lexsV x0] [] 0=some (bo false,[Ob.mapo (idsR x0 i0)]) :=
  along_sound (ans:=[(4,Ans.v (bo true)),(12,Ans.b false),(22,Ans.l Ex.ret (f38_S1 a0 x0 i0 a c d e g h))]) (by kernel_rfl) (ai h0 (ai h1 (ai h2 trivial)))
theorem f38_r0_tfttff (a0:List Lett)(x0:List Lexm)(X:Ext)(call:Caller)(lf i0:Nat)(a c d e:ByteArray)(g:Nat)(h r21:List AV)
 (h0:decide ((↑i0:Int)<(↑x0.length:Int))=true)
 (h1:keep [Ob.mapo (idsR x0 i0)] (indexAddrv Tryd.prog 22 [Ob.mapo (idsR x0 i0)] (lro x0.length 5 (List.flatMap lexC x0)) (i6 (↑i0:Int)))=some (AV.eaddr (st a::st c::st d::st e::lro g 2 h::r21),[Ob.mapo (idsR x0 i0)]))
 (h2:keep [Ob.mapo (idsR x0 i0)] (lookupv Tryd.prog 58 [Ob.mapo (idsR x0 i0)] (AV.map 0) (st a) false)=some (bo false,[Ob.mapo (idsR x0 i0)]))
 (h3:callv X call false 43 [st a] [Ob.mapo (idsR x0 i0)] 0=some (bo true,[Ob.mapo (idsR x0 i0)]))
 (h4:callv X call false 43 [st c] [Ob.mapo (idsR x0 i0)] 0=some (bo true,[Ob.mapo (idsR x0 i0)]))
 (h5:(!ByteArray.toList e == ByteArray.toList (ByteArray.mk #[]))=false)
 (h6:callv X call false 71 [lro a0.length 2 (List.flatMap lettC a0),st d] [Ob.mapo (idsR x0 i0)] 0=some (bo false,[Ob.mapo (idsR x0 i0)])):vexec Tryd.prog X call lf 0 fg38 (loopN Tryd.f38 0) (f38_F0 a0 x0 i0)=some (Ex.ret,(f38_S1 a0 x0 i0 a c d e g h)) :=
  around_sound (ans:=[(1,Ans.b true),(4,Ans.v (AV.eaddr (st a::st c::st d::st e::lro g 2 h::r21))),(10,Ans.v (bo false)),(17,Ans.v (bo true)),(27,Ans.v (bo true)),(37,Ans.b false),(55,Ans.v (bo false))]) (by kernel_rfl) (ai h0 (ai h1 (ai h2 (ai h3 (ai h4 (ai h5 (ai h6 trivial)))))))
theorem f38_ptfltfttff (a0:List Lett)(x0:List Lexm)(X:Ext)(call:Caller)(lf i0:Nat)(a c d e:ByteArray)(g:Nat)(h:List AV)
 (h0:callv X call false 70 [lro a0.length 2 (List.flatMap lettC a0)] [] 0=some (bo true,[]))
 (h1:decide ((↑x0.length:Int)>256)=false)
 (h2:vexec Tryd.prog X call lf 0 fg38 (Code.loop (loopN Tryd.f38 0)) (f38_S0 a0 x0)=some (Ex.ret,(f38_S1 a0 x0 i0 a c d e g h))):vbody Tryd.prog X call lf fg38 Tryd.f38 (codeOf Tryd.f38) [lettsV a0,lexsV x0] [] 0=some (bo false,[Ob.mapo (idsR x0 i0)]) :=
  along_sound (ans:=[(4,Ans.v (bo true)),(12,Ans.b false),(22,Ans.l Ex.ret (f38_S1 a0 x0 i0 a c d e g h))]) (by kernel_rfl) (ai h0 (ai h1 (ai h2 trivial)))
theorem f38_r0_tftf (a0:List Lett)(x0:List Lexm)(X:Ext)(call:Caller)(lf i0:Nat)(a c d e:ByteArray)(g:Nat)(h r21:List AV)
 (h0:decide ((↑i0:Int)<(↑x0.length:Int))=true)
 (h1:keep [Ob.mapo (idsR x0 i0)] (indexAddrv Tryd.prog 22 [Ob.mapo (idsR x0 i0)] (lro x0.length 5 (List.flatMap lexC x0)) (i6 (↑i0:Int)))=some (AV.eaddr (st a::st c::st d::st e::lro g 2 h::r21),[Ob.mapo (idsR x0 i0)]))
 (h2:keep [Ob.mapo (idsR x0 i0)] (lookupv Tryd.prog 58 [Ob.mapo (idsR x0 i0)] (AV.map 0) (st a) false)=some (bo false,[Ob.mapo (idsR x0 i0)]))
 (h3:callv X call false 43 [st a] [Ob.mapo (idsR x0 i0)] 0=some (bo true,[Ob.mapo (idsR x0 i0)]))
 (h4:callv X call false 43 [st c] [Ob.mapo (idsR x0 i0)] 0=some (bo false,[Ob.mapo (idsR x0 i0)])):vexec Tryd.prog X call lf 0 fg38 (loopN Tryd.f38 0) (f38_F0 a0 x0 i0)=some (Ex.ret,(f38_S1 a0 x0 i0 a c d e g h)) :=
  around_sound (ans:=[(1,Ans.b true),(4,Ans.v (AV.eaddr (st a::st c::st d::st e::lro g 2 h::r21))),(10,Ans.v (bo false)),(17,Ans.v (bo true)),(27,Ans.v (bo false))]) (by kernel_rfl) (ai h0 (ai h1 (ai h2 (ai h3 (ai h4 trivial)))))
theorem f38_ptfltftf (a0:List Lett)(x0:List Lexm)(X:Ext)(call:Caller)(lf i0:Nat)(a c d e:ByteArray)(g:Nat)(h:List AV)
 (h0:callv X call false 70 [lro a0.length 2 (List.flatMap lettC a0)] [] 0=some (bo true,[]))
 (h1:decide ((↑x0.length:Int)>256)=false)
 (h2:vexec Tryd.prog X call lf 0 fg38 (Code.loop (loopN Tryd.f38 0)) (f38_S0 a0 x0)=some (Ex.ret,(f38_S1 a0 x0 i0 a c d e g h))):vbody Tryd.prog X call lf fg38 Tryd.f38 (codeOf Tryd.f38) [lettsV a0,lexsV x0] [] 0=some (bo false,[Ob.mapo (idsR x0 i0)]) :=
  along_sound (ans:=[(4,Ans.v (bo true)),(12,Ans.b false),(22,Ans.l Ex.ret (f38_S1 a0 x0 i0 a c d e g h))]) (by kernel_rfl) (ai h0 (ai h1 (ai h2 trivial)))
theorem f38_r0_tff (a0:List Lett)(x0:List Lexm)(X:Ext)(call:Caller)(lf i0:Nat)(a c d e:ByteArray)(g:Nat)(h r21:List AV)
 (h0:decide ((↑i0:Int)<(↑x0.length:Int))=true)
 (h1:keep [Ob.mapo (idsR x0 i0)] (indexAddrv Tryd.prog 22 [Ob.mapo (idsR x0 i0)] (lro x0.length 5 (List.flatMap lexC x0)) (i6 (↑i0:Int)))=some (AV.eaddr (st a::st c::st d::st e::lro g 2 h::r21),[Ob.mapo (idsR x0 i0)]))
 (h2:keep [Ob.mapo (idsR x0 i0)] (lookupv Tryd.prog 58 [Ob.mapo (idsR x0 i0)] (AV.map 0) (st a) false)=some (bo false,[Ob.mapo (idsR x0 i0)]))
 (h3:callv X call false 43 [st a] [Ob.mapo (idsR x0 i0)] 0=some (bo false,[Ob.mapo (idsR x0 i0)])):vexec Tryd.prog X call lf 0 fg38 (loopN Tryd.f38 0) (f38_F0 a0 x0 i0)=some (Ex.ret,(f38_S1 a0 x0 i0 a c d e g h)) :=
  around_sound (ans:=[(1,Ans.b true),(4,Ans.v (AV.eaddr (st a::st c::st d::st e::lro g 2 h::r21))),(10,Ans.v (bo false)),(17,Ans.v (bo false))]) (by kernel_rfl) (ai h0 (ai h1 (ai h2 (ai h3 trivial))))
theorem f38_ptfltff (a0:List Lett)(x0:List Lexm)(X:Ext)(call:Caller)(lf i0:Nat)(a c d e:ByteArray)(g:Nat)(h:List AV)
 (h0:callv X call false 70 [lro a0.length 2 (List.flatMap lettC a0)] [] 0=some (bo true,[]))
 (h1:decide ((↑x0.length:Int)>256)=false)
 (h2:vexec Tryd.prog X call lf 0 fg38 (Code.loop (loopN Tryd.f38 0)) (f38_S0 a0 x0)=some (Ex.ret,(f38_S1 a0 x0 i0 a c d e g h))):vbody Tryd.prog X call lf fg38 Tryd.f38 (codeOf Tryd.f38) [lettsV a0,lexsV x0] [] 0=some (bo false,[Ob.mapo (idsR x0 i0)]) :=
  along_sound (ans:=[(4,Ans.v (bo true)),(12,Ans.b false),(22,Ans.l Ex.ret (f38_S1 a0 x0 i0 a c d e g h))]) (by kernel_rfl) (ai h0 (ai h1 (ai h2 trivial)))
def f38_S2 (a0:List Lett)(x0:List Lexm)(i0:Nat):St :=
  stOf 67 [4,7,8,9,10,11,12,13,14,21,22,23,24,25,26,27,28,29,30,31,32,33,34,35,36,37,38,39,40,41,42,43,44,45,46,47,48,49,50,51,52,53,54,55,56,57,58,59,60,61,62,63,64,65,66] [(0,lro a0.length 2 (List.flatMap lettC a0)),(1,lro x0.length 5 (List.flatMap lexC x0)),(5,AV.map 0),(15,bo false),(16,AV.map 0),(17,lro x0.length 5 (List.flatMap lexC x0)),(18,i6 (↑x0.length:Int)),(19,i6 (↑i0:Int)),(20,bo false)] [Ob.mapo (idsR x0 i0)]
theorem f38_r0_f (a0:List Lett)(x0:List Lexm)(X:Ext)(call:Caller)(lf i0:Nat)
 (h0:decide ((↑i0:Int)<(↑x0.length:Int))=false):vexec Tryd.prog X call lf 0 fg38 (loopN Tryd.f38 0) (f38_F0 a0 x0 i0)=some (Ex.exit 0,(f38_S2 a0 x0 i0)) :=
  around_sound (ans:=[(1,Ans.b false)]) (by kernel_rfl) (ai h0 trivial)
theorem f38_ptflf (a0:List Lett)(x0:List Lexm)(X:Ext)(call:Caller)(lf i0:Nat)
 (h0:callv X call false 70 [lro a0.length 2 (List.flatMap lettC a0)] [] 0=some (bo true,[]))
 (h1:decide ((↑x0.length:Int)>256)=false)
 (h2:vexec Tryd.prog X call lf 0 fg38 (Code.loop (loopN Tryd.f38 0)) (f38_S0 a0 x0)=some (Ex.exit 0,(f38_S2 a0 x0 i0))):vbody Tryd.prog X call lf fg38 Tryd.f38 (codeOf Tryd.f38) [lettsV a0,lexsV x0] [] 0=some (bo true,[Ob.mapo (idsR x0 i0)]) :=
  along_sound (ans:=[(4,Ans.v (bo true)),(12,Ans.b false),(22,Ans.l (Ex.exit 0) (f38_S2 a0 x0 i0))]) (by kernel_rfl) (ai h0 (ai h1 (ai h2 trivial)))
theorem f38_pf (a0:List Lett)(x0:List Lexm)(X:Ext)(call:Caller)(lf:Nat)
 (h0:callv X call false 70 [lro a0.length 2 (List.flatMap lettC a0)] [] 0=some (bo false,[])):vbody Tryd.prog X call lf fg38 Tryd.f38 (codeOf Tryd.f38) [lettsV a0,lexsV x0] [] 0=some (bo false,[]) :=
  along_sound (ans:=[(4,Ans.v (bo false))]) (by kernel_rfl) (ai h0 trivial)
def f38_o0 (x0:List Lexm)(i0:Nat)(a:ByteArray)(b0 b1 b2 b3 b4 b5 b6 b7:Bool):Nat :=
  (match decide ((↑i0:Int)<(↑x0.length:Int)) with
  | true=>(match b0 with
    | true=>1
    | false=>(match b1 with
      | true=>(match b2 with
        | true=>(match (!ByteArray.toList a == ByteArray.toList (ByteArray.mk #[])) with
          | true=>(match b3 with
            | true=>(match b4 with
              | true=>(match b5 with
                | true=>0
                | false=>1)
              | false=>1)
            | false=>1)
          | false=>(match b6 with
            | true=>(match b7 with
              | true=>0
              | false=>1)
            | false=>1))
        | false=>1)
      | false=>1))
  | false=>2)
theorem f38_B0 (a0:List Lett)(x0:List Lexm)(X:Ext)(call:Caller)(lf i0:Nat)(a b c d:ByteArray)(e:Nat)(g r21:List AV)(sq78 sq74:List Ob)(b0 b1 b2 b3 b4 b5 b6 b7:Bool)
 (g0:decide ((↑i0:Int)<(↑x0.length:Int))=true→keep [Ob.mapo (idsR x0 i0)] (indexAddrv Tryd.prog 22 [Ob.mapo (idsR x0 i0)] (lro x0.length 5 (List.flatMap lexC x0)) (i6 (↑i0:Int)))=some (AV.eaddr (st a::st b::st c::st d::lro e 2 g::r21),[Ob.mapo (idsR x0 i0)]))
 (g1:decide ((↑i0:Int)<(↑x0.length:Int))=true→keep [Ob.mapo (idsR x0 i0)] (lookupv Tryd.prog 58 [Ob.mapo (idsR x0 i0)] (AV.map 0) (st a) false)=some (bo b0,[Ob.mapo (idsR x0 i0)]))
 (g2:decide ((↑i0:Int)<(↑x0.length:Int))=true→b0=false→callv X call false 43 [st a] [Ob.mapo (idsR x0 i0)] 0=some (bo b1,[Ob.mapo (idsR x0 i0)]))
 (g3:decide ((↑i0:Int)<(↑x0.length:Int))=true→b0=false→b1=true→callv X call false 43 [st b] [Ob.mapo (idsR x0 i0)] 0=some (bo b2,[Ob.mapo (idsR x0 i0)]))
 (g4:decide ((↑i0:Int)<(↑x0.length:Int))=true→b0=false→b1=true→b2=true→(!ByteArray.toList d == ByteArray.toList (ByteArray.mk #[]))=true→callv X call false 43 [st d] [Ob.mapo (idsR x0 i0)] 0=some (bo b3,[Ob.mapo (idsR x0 i0)]))
 (g5:decide ((↑i0:Int)<(↑x0.length:Int))=true→b0=false→b1=true→b2=true→(!ByteArray.toList d == ByteArray.toList (ByteArray.mk #[]))=true→b3=true→callv X call false 71 [lro a0.length 2 (List.flatMap lettC a0),st c] [Ob.mapo (idsR x0 i0)] 0=some (bo b4,[Ob.mapo (idsR x0 i0)]))
 (g6:decide ((↑i0:Int)<(↑x0.length:Int))=true→b0=false→b1=true→b2=true→(!ByteArray.toList d == ByteArray.toList (ByteArray.mk #[]))=true→b3=true→b4=true→callv X call false 45 [lro e 2 g] [Ob.mapo (idsR x0 i0)] 0=some (bo b5,[Ob.mapo (idsR x0 i0)]))
 (g7:decide ((↑i0:Int)<(↑x0.length:Int))=true→b0=false→b1=true→b2=true→(!ByteArray.toList d == ByteArray.toList (ByteArray.mk #[]))=true→b3=true→b4=true→b5=true→unit1 (mapUpdatev Tryd.prog 58 [Ob.mapo (idsR x0 i0)] 0 (AV.map 0) (st a) (bo true))=some (AV.undef,sq78))
 (g8:decide ((↑i0:Int)<(↑x0.length:Int))=true→b0=false→b1=true→b2=true→(!ByteArray.toList d == ByteArray.toList (ByteArray.mk #[]))=false→callv X call false 71 [lro a0.length 2 (List.flatMap lettC a0),st c] [Ob.mapo (idsR x0 i0)] 0=some (bo b6,[Ob.mapo (idsR x0 i0)]))
 (g9:decide ((↑i0:Int)<(↑x0.length:Int))=true→b0=false→b1=true→b2=true→(!ByteArray.toList d == ByteArray.toList (ByteArray.mk #[]))=false→b6=true→callv X call false 45 [lro e 2 g] [Ob.mapo (idsR x0 i0)] 0=some (bo b7,[Ob.mapo (idsR x0 i0)]))
 (g10:decide ((↑i0:Int)<(↑x0.length:Int))=true→b0=false→b1=true→b2=true→(!ByteArray.toList d == ByteArray.toList (ByteArray.mk #[]))=false→b6=true→b7=true→unit1 (mapUpdatev Tryd.prog 58 [Ob.mapo (idsR x0 i0)] 0 (AV.map 0) (st a) (bo true))=some (AV.undef,sq74))
 (e0:decide ((↑i0:Int)<(↑x0.length:Int))=true→(↑(i0 + 1):Int)=w6 ((↑i0:Int) + 1))
 (e1:decide ((↑i0:Int)<(↑x0.length:Int))=true→b0=false→b1=true→b2=true→(!ByteArray.toList d == ByteArray.toList (ByteArray.mk #[]))=true→b3=true→b4=true→b5=true→[Ob.mapo (idsR x0 (i0 + 1))]=sq78)
 (e2:decide ((↑i0:Int)<(↑x0.length:Int))=true→b0=false→b1=true→b2=true→(!ByteArray.toList d == ByteArray.toList (ByteArray.mk #[]))=false→b6=true→b7=true→[Ob.mapo (idsR x0 (i0 + 1))]=sq74) :
    (f38_o0 x0 i0 d b0 b1 b2 b3 b4 b5 b6 b7=0→∃ Sx,vexec Tryd.prog X call lf 0 fg38 (loopN Tryd.f38 0) (f38_F0 a0 x0 i0)=some (Ex.normal,Sx)∧forget f38_D0 Sx=(f38_F0 a0 x0 (i0 + 1)))∧(f38_o0 x0 i0 d b0 b1 b2 b3 b4 b5 b6 b7=1→vexec Tryd.prog X call lf 0 fg38 (loopN Tryd.f38 0) (f38_F0 a0 x0 i0)=some (Ex.ret,(f38_S1 a0 x0 i0 a b c d e g)))∧(f38_o0 x0 i0 d b0 b1 b2 b3 b4 b5 b6 b7=2→vexec Tryd.prog X call lf 0 fg38 (loopN Tryd.f38 0) (f38_F0 a0 x0 i0)=some (Ex.exit 0,(f38_S2 a0 x0 i0))):=by
  unfold f38_o0
  cases c0:decide ((↑i0:Int)<(↑x0.length:Int)) with
  | true =>
    cases c1:b0 with
    | true =>
      exact ⟨fun h=>absurd (show (1:Nat)=0 from h) (by decide),fun _=>f38_r0_tt a0 x0 X call lf i0 a b c d e g r21 c0 (g0 c0) (by have:=(g1 c0); rw [c1] at this; exact this),fun h=>absurd (show (1:Nat)=2 from h) (by decide)⟩
    | false =>
      cases c2:b1 with
      | true =>
        cases c3:b2 with
        | true =>
          cases c4:(!ByteArray.toList d == ByteArray.toList (ByteArray.mk #[])) with
          | true =>
            cases c5:b3 with
            | true =>
              cases c6:b4 with
              | true =>
                cases c7:b5 with
                | true =>
                  exact ⟨fun _=>f38_s0_tftttttt a0 x0 X call lf i0 a b c d e g r21 sq78 c0 (g0 c0) (by have:=(g1 c0); rw [c1] at this; exact this) (by have:=(g2 c0 c1); rw [c2] at this; exact this) (by have:=(g3 c0 c1 c2); rw [c3] at this; exact this) c4 (by have:=(g4 c0 c1 c2 c3 c4); rw [c5] at this; exact this) (by have:=(g5 c0 c1 c2 c3 c4 c5); rw [c6] at this; exact this) (by have:=(g6 c0 c1 c2 c3 c4 c5 c6); rw [c7] at this; exact this) (g7 c0 c1 c2 c3 c4 c5 c6 c7) (e0 c0) (e1 c0 c1 c2 c3 c4 c5 c6 c7),fun h=>absurd (show (0:Nat)=1 from h) (by decide),fun h=>absurd (show (0:Nat)=2 from h) (by decide)⟩
                | false =>
                  exact ⟨fun h=>absurd (show (1:Nat)=0 from h) (by decide),fun _=>f38_r0_tftttttf a0 x0 X call lf i0 a b c d e g r21 c0 (g0 c0) (by have:=(g1 c0); rw [c1] at this; exact this) (by have:=(g2 c0 c1); rw [c2] at this; exact this) (by have:=(g3 c0 c1 c2); rw [c3] at this; exact this) c4 (by have:=(g4 c0 c1 c2 c3 c4); rw [c5] at this; exact this) (by have:=(g5 c0 c1 c2 c3 c4 c5); rw [c6] at this; exact this) (by have:=(g6 c0 c1 c2 c3 c4 c5 c6); rw [c7] at this; exact this),fun h=>absurd (show (1:Nat)=2 from h) (by decide)⟩
              | false =>
                exact ⟨fun h=>absurd (show (1:Nat)=0 from h) (by decide),fun _=>f38_r0_tfttttf a0 x0 X call lf i0 a b c d e g r21 c0 (g0 c0) (by have:=(g1 c0); rw [c1] at this; exact this) (by have:=(g2 c0 c1); rw [c2] at this; exact this) (by have:=(g3 c0 c1 c2); rw [c3] at this; exact this) c4 (by have:=(g4 c0 c1 c2 c3 c4); rw [c5] at this; exact this) (by have:=(g5 c0 c1 c2 c3 c4 c5); rw [c6] at this; exact this),fun h=>absurd (show (1:Nat)=2 from h) (by decide)⟩
            | false =>
              exact ⟨fun h=>absurd (show (1:Nat)=0 from h) (by decide),fun _=>f38_r0_tftttf a0 x0 X call lf i0 a b c d e g r21 c0 (g0 c0) (by have:=(g1 c0); rw [c1] at this; exact this) (by have:=(g2 c0 c1); rw [c2] at this; exact this) (by have:=(g3 c0 c1 c2); rw [c3] at this; exact this) c4 (by have:=(g4 c0 c1 c2 c3 c4); rw [c5] at this; exact this),fun h=>absurd (show (1:Nat)=2 from h) (by decide)⟩
          | false =>
            cases c5:b6 with
            | true =>
              cases c6:b7 with
              | true =>
                exact ⟨fun _=>f38_s0_tfttftt a0 x0 X call lf i0 a b c d e g r21 sq74 c0 (g0 c0) (by have:=(g1 c0); rw [c1] at this; exact this) (by have:=(g2 c0 c1); rw [c2] at this; exact this) (by have:=(g3 c0 c1 c2); rw [c3] at this; exact this) c4 (by have:=(g8 c0 c1 c2 c3 c4); rw [c5] at this; exact this) (by have:=(g9 c0 c1 c2 c3 c4 c5); rw [c6] at this; exact this) (g10 c0 c1 c2 c3 c4 c5 c6) (e0 c0) (e2 c0 c1 c2 c3 c4 c5 c6),fun h=>absurd (show (0:Nat)=1 from h) (by decide),fun h=>absurd (show (0:Nat)=2 from h) (by decide)⟩
              | false =>
                exact ⟨fun h=>absurd (show (1:Nat)=0 from h) (by decide),fun _=>f38_r0_tfttftf a0 x0 X call lf i0 a b c d e g r21 c0 (g0 c0) (by have:=(g1 c0); rw [c1] at this; exact this) (by have:=(g2 c0 c1); rw [c2] at this; exact this) (by have:=(g3 c0 c1 c2); rw [c3] at this; exact this) c4 (by have:=(g8 c0 c1 c2 c3 c4); rw [c5] at this; exact this) (by have:=(g9 c0 c1 c2 c3 c4 c5); rw [c6] at this; exact this),fun h=>absurd (show (1:Nat)=2 from h) (by decide)⟩
            | false =>
              exact ⟨fun h=>absurd (show (1:Nat)=0 from h) (by decide),fun _=>f38_r0_tfttff a0 x0 X call lf i0 a b c d e g r21 c0 (g0 c0) (by have:=(g1 c0); rw [c1] at this; exact this) (by have:=(g2 c0 c1); rw [c2] at this; exact this) (by have:=(g3 c0 c1 c2); rw [c3] at this; exact this) c4 (by have:=(g8 c0 c1 c2 c3 c4); rw [c5] at this; exact this),fun h=>absurd (show (1:Nat)=2 from h) (by decide)⟩
        | false =>
          exact ⟨fun h=>absurd (show (1:Nat)=0 from h) (by decide),fun _=>f38_r0_tftf a0 x0 X call lf i0 a b c d e g r21 c0 (g0 c0) (by have:=(g1 c0); rw [c1] at this; exact this) (by have:=(g2 c0 c1); rw [c2] at this; exact this) (by have:=(g3 c0 c1 c2); rw [c3] at this; exact this),fun h=>absurd (show (1:Nat)=2 from h) (by decide)⟩
      | false =>
        exact ⟨fun h=>absurd (show (1:Nat)=0 from h) (by decide),fun _=>f38_r0_tff a0 x0 X call lf i0 a b c d e g r21 c0 (g0 c0) (by have:=(g1 c0); rw [c1] at this; exact this) (by have:=(g2 c0 c1); rw [c2] at this; exact this),fun h=>absurd (show (1:Nat)=2 from h) (by decide)⟩
  | false =>
    exact ⟨fun h=>absurd (show (2:Nat)=0 from h) (by decide),fun h=>absurd (show (2:Nat)=1 from h) (by decide),fun _=>f38_r0_f a0 x0 X call lf i0 c0⟩
theorem f38_X0 (a0:List Lett)(x0:List Lexm)(X:Ext)(call:Caller)(lf i0:Nat)(a b c d:ByteArray)(e:Nat)(g r21:List AV)(sq78 sq74:List Ob)(b0 b1 b2 b3 b4 b5 b6 b7:Bool)
 (g0:decide ((↑i0:Int)<(↑x0.length:Int))=true→keep [Ob.mapo (idsR x0 i0)] (indexAddrv Tryd.prog 22 [Ob.mapo (idsR x0 i0)] (lro x0.length 5 (List.flatMap lexC x0)) (i6 (↑i0:Int)))=some (AV.eaddr (st a::st b::st c::st d::lro e 2 g::r21),[Ob.mapo (idsR x0 i0)]))
 (g1:decide ((↑i0:Int)<(↑x0.length:Int))=true→keep [Ob.mapo (idsR x0 i0)] (lookupv Tryd.prog 58 [Ob.mapo (idsR x0 i0)] (AV.map 0) (st a) false)=some (bo b0,[Ob.mapo (idsR x0 i0)]))
 (g2:decide ((↑i0:Int)<(↑x0.length:Int))=true→b0=false→callv X call false 43 [st a] [Ob.mapo (idsR x0 i0)] 0=some (bo b1,[Ob.mapo (idsR x0 i0)]))
 (g3:decide ((↑i0:Int)<(↑x0.length:Int))=true→b0=false→b1=true→callv X call false 43 [st b] [Ob.mapo (idsR x0 i0)] 0=some (bo b2,[Ob.mapo (idsR x0 i0)]))
 (g4:decide ((↑i0:Int)<(↑x0.length:Int))=true→b0=false→b1=true→b2=true→(!ByteArray.toList d == ByteArray.toList (ByteArray.mk #[]))=true→callv X call false 43 [st d] [Ob.mapo (idsR x0 i0)] 0=some (bo b3,[Ob.mapo (idsR x0 i0)]))
 (g5:decide ((↑i0:Int)<(↑x0.length:Int))=true→b0=false→b1=true→b2=true→(!ByteArray.toList d == ByteArray.toList (ByteArray.mk #[]))=true→b3=true→callv X call false 71 [lro a0.length 2 (List.flatMap lettC a0),st c] [Ob.mapo (idsR x0 i0)] 0=some (bo b4,[Ob.mapo (idsR x0 i0)]))
 (g6:decide ((↑i0:Int)<(↑x0.length:Int))=true→b0=false→b1=true→b2=true→(!ByteArray.toList d == ByteArray.toList (ByteArray.mk #[]))=true→b3=true→b4=true→callv X call false 45 [lro e 2 g] [Ob.mapo (idsR x0 i0)] 0=some (bo b5,[Ob.mapo (idsR x0 i0)]))
 (g7:decide ((↑i0:Int)<(↑x0.length:Int))=true→b0=false→b1=true→b2=true→(!ByteArray.toList d == ByteArray.toList (ByteArray.mk #[]))=true→b3=true→b4=true→b5=true→unit1 (mapUpdatev Tryd.prog 58 [Ob.mapo (idsR x0 i0)] 0 (AV.map 0) (st a) (bo true))=some (AV.undef,sq78))
 (g8:decide ((↑i0:Int)<(↑x0.length:Int))=true→b0=false→b1=true→b2=true→(!ByteArray.toList d == ByteArray.toList (ByteArray.mk #[]))=false→callv X call false 71 [lro a0.length 2 (List.flatMap lettC a0),st c] [Ob.mapo (idsR x0 i0)] 0=some (bo b6,[Ob.mapo (idsR x0 i0)]))
 (g9:decide ((↑i0:Int)<(↑x0.length:Int))=true→b0=false→b1=true→b2=true→(!ByteArray.toList d == ByteArray.toList (ByteArray.mk #[]))=false→b6=true→callv X call false 45 [lro e 2 g] [Ob.mapo (idsR x0 i0)] 0=some (bo b7,[Ob.mapo (idsR x0 i0)]))
 (g10:decide ((↑i0:Int)<(↑x0.length:Int))=true→b0=false→b1=true→b2=true→(!ByteArray.toList d == ByteArray.toList (ByteArray.mk #[]))=false→b6=true→b7=true→unit1 (mapUpdatev Tryd.prog 58 [Ob.mapo (idsR x0 i0)] 0 (AV.map 0) (st a) (bo true))=some (AV.undef,sq74)) :
    (f38_o0 x0 i0 d b0 b1 b2 b3 b4 b5 b6 b7=1→vexec Tryd.prog X call lf 0 fg38 (loopN Tryd.f38 0) (f38_F0 a0 x0 i0)=some (Ex.ret,(f38_S1 a0 x0 i0 a b c d e g)))∧(f38_o0 x0 i0 d b0 b1 b2 b3 b4 b5 b6 b7=2→vexec Tryd.prog X call lf 0 fg38 (loopN Tryd.f38 0) (f38_F0 a0 x0 i0)=some (Ex.exit 0,(f38_S2 a0 x0 i0))):=by
  unfold f38_o0
  cases c0:decide ((↑i0:Int)<(↑x0.length:Int)) with
  | true =>
    cases c1:b0 with
    | true =>
      exact ⟨fun _=>f38_r0_tt a0 x0 X call lf i0 a b c d e g r21 c0 (g0 c0) (by have:=(g1 c0); rw [c1] at this; exact this),fun h=>absurd (show (1:Nat)=2 from h) (by decide)⟩
    | false =>
      cases c2:b1 with
      | true =>
        cases c3:b2 with
        | true =>
          cases c4:(!ByteArray.toList d == ByteArray.toList (ByteArray.mk #[])) with
          | true =>
            cases c5:b3 with
            | true =>
              cases c6:b4 with
              | true =>
                cases c7:b5 with
                | true =>
                  exact ⟨fun h=>absurd (show (0:Nat)=1 from h) (by decide),fun h=>absurd (show (0:Nat)=2 from h) (by decide)⟩
                | false =>
                  exact ⟨fun _=>f38_r0_tftttttf a0 x0 X call lf i0 a b c d e g r21 c0 (g0 c0) (by have:=(g1 c0); rw [c1] at this; exact this) (by have:=(g2 c0 c1); rw [c2] at this; exact this) (by have:=(g3 c0 c1 c2); rw [c3] at this; exact this) c4 (by have:=(g4 c0 c1 c2 c3 c4); rw [c5] at this; exact this) (by have:=(g5 c0 c1 c2 c3 c4 c5); rw [c6] at this; exact this) (by have:=(g6 c0 c1 c2 c3 c4 c5 c6); rw [c7] at this; exact this),fun h=>absurd (show (1:Nat)=2 from h) (by decide)⟩
              | false =>
                exact ⟨fun _=>f38_r0_tfttttf a0 x0 X call lf i0 a b c d e g r21 c0 (g0 c0) (by have:=(g1 c0); rw [c1] at this; exact this) (by have:=(g2 c0 c1); rw [c2] at this; exact this) (by have:=(g3 c0 c1 c2); rw [c3] at this; exact this) c4 (by have:=(g4 c0 c1 c2 c3 c4); rw [c5] at this; exact this) (by have:=(g5 c0 c1 c2 c3 c4 c5); rw [c6] at this; exact this),fun h=>absurd (show (1:Nat)=2 from h) (by decide)⟩
            | false =>
              exact ⟨fun _=>f38_r0_tftttf a0 x0 X call lf i0 a b c d e g r21 c0 (g0 c0) (by have:=(g1 c0); rw [c1] at this; exact this) (by have:=(g2 c0 c1); rw [c2] at this; exact this) (by have:=(g3 c0 c1 c2); rw [c3] at this; exact this) c4 (by have:=(g4 c0 c1 c2 c3 c4); rw [c5] at this; exact this),fun h=>absurd (show (1:Nat)=2 from h) (by decide)⟩
          | false =>
            cases c5:b6 with
            | true =>
              cases c6:b7 with
              | true =>
                exact ⟨fun h=>absurd (show (0:Nat)=1 from h) (by decide),fun h=>absurd (show (0:Nat)=2 from h) (by decide)⟩
              | false =>
                exact ⟨fun _=>f38_r0_tfttftf a0 x0 X call lf i0 a b c d e g r21 c0 (g0 c0) (by have:=(g1 c0); rw [c1] at this; exact this) (by have:=(g2 c0 c1); rw [c2] at this; exact this) (by have:=(g3 c0 c1 c2); rw [c3] at this; exact this) c4 (by have:=(g8 c0 c1 c2 c3 c4); rw [c5] at this; exact this) (by have:=(g9 c0 c1 c2 c3 c4 c5); rw [c6] at this; exact this),fun h=>absurd (show (1:Nat)=2 from h) (by decide)⟩
            | false =>
              exact ⟨fun _=>f38_r0_tfttff a0 x0 X call lf i0 a b c d e g r21 c0 (g0 c0) (by have:=(g1 c0); rw [c1] at this; exact this) (by have:=(g2 c0 c1); rw [c2] at this; exact this) (by have:=(g3 c0 c1 c2); rw [c3] at this; exact this) c4 (by have:=(g8 c0 c1 c2 c3 c4); rw [c5] at this; exact this),fun h=>absurd (show (1:Nat)=2 from h) (by decide)⟩
        | false =>
          exact ⟨fun _=>f38_r0_tftf a0 x0 X call lf i0 a b c d e g r21 c0 (g0 c0) (by have:=(g1 c0); rw [c1] at this; exact this) (by have:=(g2 c0 c1); rw [c2] at this; exact this) (by have:=(g3 c0 c1 c2); rw [c3] at this; exact this),fun h=>absurd (show (1:Nat)=2 from h) (by decide)⟩
      | false =>
        exact ⟨fun _=>f38_r0_tff a0 x0 X call lf i0 a b c d e g r21 c0 (g0 c0) (by have:=(g1 c0); rw [c1] at this; exact this) (by have:=(g2 c0 c1); rw [c2] at this; exact this),fun h=>absurd (show (1:Nat)=2 from h) (by decide)⟩
  | false =>
    exact ⟨fun h=>absurd (show (2:Nat)=1 from h) (by decide),fun _=>f38_r0_f a0 x0 X call lf i0 c0⟩
theorem f38_M (a0:List Lett)(x0:List Lexm)(X:Ext)(call:Caller)(lf n:Nat)(a b c d:Nat→ByteArray)(e:Nat→Nat)(g r21:Nat→List AV)(sq78 sq74:Nat→List Ob)(b0 b1 b2 b3 b4 b5 b6 b7:Nat→Bool)
 (hn:n<lf)
 (g0:∀ i0,i0 ≤ n→decide ((↑i0:Int)<(↑x0.length:Int))=true→keep [Ob.mapo (idsR x0 i0)] (indexAddrv Tryd.prog 22 [Ob.mapo (idsR x0 i0)] (lro x0.length 5 (List.flatMap lexC x0)) (i6 (↑i0:Int)))=some (AV.eaddr (st (a i0)::st (b i0)::st (c i0)::st (d i0)::lro (e i0) 2 (g i0)::(r21 i0)),[Ob.mapo (idsR x0 i0)]))
 (g1:∀ i0,i0 ≤ n→decide ((↑i0:Int)<(↑x0.length:Int))=true→keep [Ob.mapo (idsR x0 i0)] (lookupv Tryd.prog 58 [Ob.mapo (idsR x0 i0)] (AV.map 0) (st (a i0)) false)=some (bo (b0 i0),[Ob.mapo (idsR x0 i0)]))
 (g2:∀ i0,i0 ≤ n→decide ((↑i0:Int)<(↑x0.length:Int))=true→(b0 i0)=false→callv X call false 43 [st (a i0)] [Ob.mapo (idsR x0 i0)] 0=some (bo (b1 i0),[Ob.mapo (idsR x0 i0)]))
 (g3:∀ i0,i0 ≤ n→decide ((↑i0:Int)<(↑x0.length:Int))=true→(b0 i0)=false→(b1 i0)=true→callv X call false 43 [st (b i0)] [Ob.mapo (idsR x0 i0)] 0=some (bo (b2 i0),[Ob.mapo (idsR x0 i0)]))
 (g4:∀ i0,i0 ≤ n→decide ((↑i0:Int)<(↑x0.length:Int))=true→(b0 i0)=false→(b1 i0)=true→(b2 i0)=true→(!ByteArray.toList (d i0) == ByteArray.toList (ByteArray.mk #[]))=true→callv X call false 43 [st (d i0)] [Ob.mapo (idsR x0 i0)] 0=some (bo (b3 i0),[Ob.mapo (idsR x0 i0)]))
 (g5:∀ i0,i0 ≤ n→decide ((↑i0:Int)<(↑x0.length:Int))=true→(b0 i0)=false→(b1 i0)=true→(b2 i0)=true→(!ByteArray.toList (d i0) == ByteArray.toList (ByteArray.mk #[]))=true→(b3 i0)=true→callv X call false 71 [lro a0.length 2 (List.flatMap lettC a0),st (c i0)] [Ob.mapo (idsR x0 i0)] 0=some (bo (b4 i0),[Ob.mapo (idsR x0 i0)]))
 (g6:∀ i0,i0 ≤ n→decide ((↑i0:Int)<(↑x0.length:Int))=true→(b0 i0)=false→(b1 i0)=true→(b2 i0)=true→(!ByteArray.toList (d i0) == ByteArray.toList (ByteArray.mk #[]))=true→(b3 i0)=true→(b4 i0)=true→callv X call false 45 [lro (e i0) 2 (g i0)] [Ob.mapo (idsR x0 i0)] 0=some (bo (b5 i0),[Ob.mapo (idsR x0 i0)]))
 (g7:∀ i0,i0 ≤ n→decide ((↑i0:Int)<(↑x0.length:Int))=true→(b0 i0)=false→(b1 i0)=true→(b2 i0)=true→(!ByteArray.toList (d i0) == ByteArray.toList (ByteArray.mk #[]))=true→(b3 i0)=true→(b4 i0)=true→(b5 i0)=true→unit1 (mapUpdatev Tryd.prog 58 [Ob.mapo (idsR x0 i0)] 0 (AV.map 0) (st (a i0)) (bo true))=some (AV.undef,(sq78 i0)))
 (g8:∀ i0,i0 ≤ n→decide ((↑i0:Int)<(↑x0.length:Int))=true→(b0 i0)=false→(b1 i0)=true→(b2 i0)=true→(!ByteArray.toList (d i0) == ByteArray.toList (ByteArray.mk #[]))=false→callv X call false 71 [lro a0.length 2 (List.flatMap lettC a0),st (c i0)] [Ob.mapo (idsR x0 i0)] 0=some (bo (b6 i0),[Ob.mapo (idsR x0 i0)]))
 (g9:∀ i0,i0 ≤ n→decide ((↑i0:Int)<(↑x0.length:Int))=true→(b0 i0)=false→(b1 i0)=true→(b2 i0)=true→(!ByteArray.toList (d i0) == ByteArray.toList (ByteArray.mk #[]))=false→(b6 i0)=true→callv X call false 45 [lro (e i0) 2 (g i0)] [Ob.mapo (idsR x0 i0)] 0=some (bo (b7 i0),[Ob.mapo (idsR x0 i0)]))
 (g10:∀ i0,i0 ≤ n→decide ((↑i0:Int)<(↑x0.length:Int))=true→(b0 i0)=false→(b1 i0)=true→(b2 i0)=true→(!ByteArray.toList (d i0) == ByteArray.toList (ByteArray.mk #[]))=false→(b6 i0)=true→(b7 i0)=true→unit1 (mapUpdatev Tryd.prog 58 [Ob.mapo (idsR x0 i0)] 0 (AV.map 0) (st (a i0)) (bo true))=some (AV.undef,(sq74 i0)))
 (e0:∀ i0,i0<n→decide ((↑i0:Int)<(↑x0.length:Int))=true→(↑(i0 + 1):Int)=w6 ((↑i0:Int) + 1))
 (e1:∀ i0,i0<n→decide ((↑i0:Int)<(↑x0.length:Int))=true→(b0 i0)=false→(b1 i0)=true→(b2 i0)=true→(!ByteArray.toList (d i0) == ByteArray.toList (ByteArray.mk #[]))=true→(b3 i0)=true→(b4 i0)=true→(b5 i0)=true→[Ob.mapo (idsR x0 (i0 + 1))]=(sq78 i0))
 (e2:∀ i0,i0<n→decide ((↑i0:Int)<(↑x0.length:Int))=true→(b0 i0)=false→(b1 i0)=true→(b2 i0)=true→(!ByteArray.toList (d i0) == ByteArray.toList (ByteArray.mk #[]))=false→(b6 i0)=true→(b7 i0)=true→[Ob.mapo (idsR x0 (i0 + 1))]=(sq74 i0))
 (hz:∀ j,j<n→f38_o0 x0 j (d j) (b0 j) (b1 j) (b2 j) (b3 j) (b4 j) (b5 j) (b6 j) (b7 j)=0) :
    (f38_o0 x0 n (d n) (b0 n) (b1 n) (b2 n) (b3 n) (b4 n) (b5 n) (b6 n) (b7 n)=1→callv X call false 70 [lro a0.length 2 (List.flatMap lettC a0)] [] 0=some (bo true,[])→decide ((↑x0.length:Int)>256)=false→vbody Tryd.prog X call lf fg38 Tryd.f38 (codeOf Tryd.f38) [lettsV a0,lexsV x0] [] 0=some (bo false,[Ob.mapo (idsR x0 n)]))∧(f38_o0 x0 n (d n) (b0 n) (b1 n) (b2 n) (b3 n) (b4 n) (b5 n) (b6 n) (b7 n)=1→callv X call false 70 [lro a0.length 2 (List.flatMap lettC a0)] [] 0=some (bo true,[])→decide ((↑x0.length:Int)>256)=false→vbody Tryd.prog X call lf fg38 Tryd.f38 (codeOf Tryd.f38) [lettsV a0,lexsV x0] [] 0=some (bo false,[Ob.mapo (idsR x0 n)]))∧(f38_o0 x0 n (d n) (b0 n) (b1 n) (b2 n) (b3 n) (b4 n) (b5 n) (b6 n) (b7 n)=1→callv X call false 70 [lro a0.length 2 (List.flatMap lettC a0)] [] 0=some (bo true,[])→decide ((↑x0.length:Int)>256)=false→vbody Tryd.prog X call lf fg38 Tryd.f38 (codeOf Tryd.f38) [lettsV a0,lexsV x0] [] 0=some (bo false,[Ob.mapo (idsR x0 n)]))∧(f38_o0 x0 n (d n) (b0 n) (b1 n) (b2 n) (b3 n) (b4 n) (b5 n) (b6 n) (b7 n)=1→callv X call false 70 [lro a0.length 2 (List.flatMap lettC a0)] [] 0=some (bo true,[])→decide ((↑x0.length:Int)>256)=false→vbody Tryd.prog X call lf fg38 Tryd.f38 (codeOf Tryd.f38) [lettsV a0,lexsV x0] [] 0=some (bo false,[Ob.mapo (idsR x0 n)]))∧(f38_o0 x0 n (d n) (b0 n) (b1 n) (b2 n) (b3 n) (b4 n) (b5 n) (b6 n) (b7 n)=1→callv X call false 70 [lro a0.length 2 (List.flatMap lettC a0)] [] 0=some (bo true,[])→decide ((↑x0.length:Int)>256)=false→vbody Tryd.prog X call lf fg38 Tryd.f38 (codeOf Tryd.f38) [lettsV a0,lexsV x0] [] 0=some (bo false,[Ob.mapo (idsR x0 n)]))∧(f38_o0 x0 n (d n) (b0 n) (b1 n) (b2 n) (b3 n) (b4 n) (b5 n) (b6 n) (b7 n)=1→callv X call false 70 [lro a0.length 2 (List.flatMap lettC a0)] [] 0=some (bo true,[])→decide ((↑x0.length:Int)>256)=false→vbody Tryd.prog X call lf fg38 Tryd.f38 (codeOf Tryd.f38) [lettsV a0,lexsV x0] [] 0=some (bo false,[Ob.mapo (idsR x0 n)]))∧(f38_o0 x0 n (d n) (b0 n) (b1 n) (b2 n) (b3 n) (b4 n) (b5 n) (b6 n) (b7 n)=1→callv X call false 70 [lro a0.length 2 (List.flatMap lettC a0)] [] 0=some (bo true,[])→decide ((↑x0.length:Int)>256)=false→vbody Tryd.prog X call lf fg38 Tryd.f38 (codeOf Tryd.f38) [lettsV a0,lexsV x0] [] 0=some (bo false,[Ob.mapo (idsR x0 n)]))∧(f38_o0 x0 n (d n) (b0 n) (b1 n) (b2 n) (b3 n) (b4 n) (b5 n) (b6 n) (b7 n)=1→callv X call false 70 [lro a0.length 2 (List.flatMap lettC a0)] [] 0=some (bo true,[])→decide ((↑x0.length:Int)>256)=false→vbody Tryd.prog X call lf fg38 Tryd.f38 (codeOf Tryd.f38) [lettsV a0,lexsV x0] [] 0=some (bo false,[Ob.mapo (idsR x0 n)]))∧(f38_o0 x0 n (d n) (b0 n) (b1 n) (b2 n) (b3 n) (b4 n) (b5 n) (b6 n) (b7 n)=2→callv X call false 70 [lro a0.length 2 (List.flatMap lettC a0)] [] 0=some (bo true,[])→decide ((↑x0.length:Int)>256)=false→vbody Tryd.prog X call lf fg38 Tryd.f38 (codeOf Tryd.f38) [lettsV a0,lexsV x0] [] 0=some (bo true,[Ob.mapo (idsR x0 n)])):=by
  have key:∀ j,j<n→_:=fun j hj=>(f38_B0 a0 x0 X call lf j (a j) (b j) (c j) (d j) (e j) (g j) (r21 j) (sq78 j) (sq74 j) (b0 j) (b1 j) (b2 j) (b3 j) (b4 j) (b5 j) (b6 j) (b7 j) (g0 j (Nat.le_of_lt hj)) (g1 j (Nat.le_of_lt hj)) (g2 j (Nat.le_of_lt hj)) (g3 j (Nat.le_of_lt hj)) (g4 j (Nat.le_of_lt hj)) (g5 j (Nat.le_of_lt hj)) (g6 j (Nat.le_of_lt hj)) (g7 j (Nat.le_of_lt hj)) (g8 j (Nat.le_of_lt hj)) (g9 j (Nat.le_of_lt hj)) (g10 j (Nat.le_of_lt hj)) (e0 j hj) (e1 j hj) (e2 j hj)).1 (hz j hj)
  have kn:=f38_X0 a0 x0 X call lf n (a n) (b n) (c n) (d n) (e n) (g n) (r21 n) (sq78 n) (sq74 n) (b0 n) (b1 n) (b2 n) (b3 n) (b4 n) (b5 n) (b6 n) (b7 n) (g0 n (Nat.le_refl n)) (g1 n (Nat.le_refl n)) (g2 n (Nat.le_refl n)) (g3 n (Nat.le_refl n)) (g4 n (Nat.le_refl n)) (g5 n (Nat.le_refl n)) (g6 n (Nat.le_refl n)) (g7 n (Nat.le_refl n)) (g8 n (Nat.le_refl n)) (g9 n (Nat.le_refl n)) (g10 n (Nat.le_refl n))
  exact ⟨fun hk q0 q1=>f38_ptfltt a0 x0 X call lf n (a n) (b n) (c n) (d n) (e n) (g n) q0 q1 (f38_L0 a0 x0 X call lf n _ _ hn key (kn.1 hk) (by simp)),
    fun hk q0 q1=>f38_ptfltftttttf a0 x0 X call lf n (a n) (b n) (c n) (d n) (e n) (g n) q0 q1 (f38_L0 a0 x0 X call lf n _ _ hn key (kn.1 hk) (by simp)),
    fun hk q0 q1=>f38_ptfltfttttf a0 x0 X call lf n (a n) (b n) (c n) (d n) (e n) (g n) q0 q1 (f38_L0 a0 x0 X call lf n _ _ hn key (kn.1 hk) (by simp)),
    fun hk q0 q1=>f38_ptfltftttf a0 x0 X call lf n (a n) (b n) (c n) (d n) (e n) (g n) q0 q1 (f38_L0 a0 x0 X call lf n _ _ hn key (kn.1 hk) (by simp)),
    fun hk q0 q1=>f38_ptfltfttftf a0 x0 X call lf n (a n) (b n) (c n) (d n) (e n) (g n) q0 q1 (f38_L0 a0 x0 X call lf n _ _ hn key (kn.1 hk) (by simp)),
    fun hk q0 q1=>f38_ptfltfttff a0 x0 X call lf n (a n) (b n) (c n) (d n) (e n) (g n) q0 q1 (f38_L0 a0 x0 X call lf n _ _ hn key (kn.1 hk) (by simp)),
    fun hk q0 q1=>f38_ptfltftf a0 x0 X call lf n (a n) (b n) (c n) (d n) (e n) (g n) q0 q1 (f38_L0 a0 x0 X call lf n _ _ hn key (kn.1 hk) (by simp)),
    fun hk q0 q1=>f38_ptfltff a0 x0 X call lf n (a n) (b n) (c n) (d n) (e n) (g n) q0 q1 (f38_L0 a0 x0 X call lf n _ _ hn key (kn.1 hk) (by simp)),
    fun hk q0 q1=>f38_ptflf a0 x0 X call lf n q0 q1 (f38_L0 a0 x0 X call lf n _ _ hn key (kn.2 hk) (by simp))⟩
def fg13:Nat→List Nat
  | 1=>[17,18,19,20,21,22,23,24,25,26,27,28,29,30,31,32,33,34,35,36,37]
  | 3=>[40,41,42,43,44,45]
  | 4=>[46]
  | 6=>[51,52,53,54,55,56]
  | 7=>[57,58,59,60,61,62]
  | 8=>[63,64,65,66,67,68]
  | 9=>[69,70,71,72,73,74,75,76,77,78,79,80,81,82,83,84,85,86,87,88,89,90,91,92,93,94,95]
  | 11=>[97,98,99,100,101,102,103,104,105,106,107,108]
  | _=>[]
def f13_S0 (a0:List Lett)(x0 y4:List Lexm)(s0:ByteArray):St :=
  stOf 109 [] [(0,lro a0.length 2 (List.flatMap lettC a0)),(1,lro x0.length 5 (List.flatMap lexC x0)),(2,lro y4.length 5 (List.flatMap lexC y4)),(3,st s0),(8,bo false)] []
def f13_S1 (a0:List Lett)(x0 y4:List Lexm)(s0:ByteArray):St :=
  stOf 109 [17,18,19,20,21,22,23,24,25,26,27,28,29,30,31,32,33,34,35,36,37] [(0,lro a0.length 2 (List.flatMap lettC a0)),(1,lro x0.length 5 (List.flatMap lexC x0)),(2,lro y4.length 5 (List.flatMap lexC y4)),(3,st s0),(8,bo false),(38,bo true)] []
theorem f13_g1_tttt (a0:List Lett)(x0 y4:List Lexm)(s0:ByteArray)(X:Ext)(call:Caller)(lf:Nat)
 (h0:callv X call false 14 [] [] 0=some (bo true,[]))
 (h1:callv X call false 15 [lro x0.length 5 (List.flatMap lexC x0)] [] 0=some (bo true,[]))
 (h2:callv X call false 15 [lro y4.length 5 (List.flatMap lexC y4)] [] 0=some (bo true,[]))
 (h3:decide ((↑(ByteArray.size s0):Int)>60)=true):vexec Tryd.prog X call lf 0 fg13 (regN Tryd.f13 1) (f13_S0 a0 x0 y4 s0)=some (Ex.normal,(f13_S1 a0 x0 y4 s0)) :=
  around_sound (ans:=[(1,Ans.v (bo true)),(7,Ans.v (bo true)),(15,Ans.v (bo true)),(25,Ans.b true)]) (by kernel_rfl) (ai h0 (ai h1 (ai h2 (ai h3 trivial))))
theorem f13_g1_tttft (a0:List Lett)(x0 y4:List Lexm)(s0:ByteArray)(X:Ext)(call:Caller)(lf:Nat)
 (h0:callv X call false 14 [] [] 0=some (bo true,[]))
 (h1:callv X call false 15 [lro x0.length 5 (List.flatMap lexC x0)] [] 0=some (bo true,[]))
 (h2:callv X call false 15 [lro y4.length 5 (List.flatMap lexC y4)] [] 0=some (bo true,[]))
 (h3:decide ((↑(ByteArray.size s0):Int)>60)=false)
 (h4:decide ((↑a0.length:Int)>70)=true):vexec Tryd.prog X call lf 0 fg13 (regN Tryd.f13 1) (f13_S0 a0 x0 y4 s0)=some (Ex.normal,(f13_S1 a0 x0 y4 s0)) :=
  around_sound (ans:=[(1,Ans.v (bo true)),(7,Ans.v (bo true)),(15,Ans.v (bo true)),(25,Ans.b false),(33,Ans.b true)]) (by kernel_rfl) (ai h0 (ai h1 (ai h2 (ai h3 (ai h4 trivial)))))
theorem f13_g1_tttff (a0:List Lett)(x0 y4:List Lexm)(s0:ByteArray)(X:Ext)(call:Caller)(lf:Nat)
 (h0:callv X call false 14 [] [] 0=some (bo true,[]))
 (h1:callv X call false 15 [lro x0.length 5 (List.flatMap lexC x0)] [] 0=some (bo true,[]))
 (h2:callv X call false 15 [lro y4.length 5 (List.flatMap lexC y4)] [] 0=some (bo true,[]))
 (h3:decide ((↑(ByteArray.size s0):Int)>60)=false)
 (h4:decide ((↑a0.length:Int)>70)=false):vexec Tryd.prog X call lf 0 fg13 (regN Tryd.f13 1) (f13_S0 a0 x0 y4 s0)=some (Ex.normal,stOf 109 [17,18,19,20,21,22,23,24,25,26,27,28,29,30,31,32,33,34,35,36,37] [(0,lro a0.length 2 (List.flatMap lettC a0)),(1,lro x0.length 5 (List.flatMap lexC x0)),(2,lro y4.length 5 (List.flatMap lexC y4)),(3,st s0),(8,bo false),(38,bo false)] []) :=
  around_sound (ans:=[(1,Ans.v (bo true)),(7,Ans.v (bo true)),(15,Ans.v (bo true)),(25,Ans.b false),(33,Ans.b false)]) (by kernel_rfl) (ai h0 (ai h1 (ai h2 (ai h3 (ai h4 trivial)))))
theorem f13_g1_ttf (a0:List Lett)(x0 y4:List Lexm)(s0:ByteArray)(X:Ext)(call:Caller)(lf:Nat)
 (h0:callv X call false 14 [] [] 0=some (bo true,[]))
 (h1:callv X call false 15 [lro x0.length 5 (List.flatMap lexC x0)] [] 0=some (bo true,[]))
 (h2:callv X call false 15 [lro y4.length 5 (List.flatMap lexC y4)] [] 0=some (bo false,[])):vexec Tryd.prog X call lf 0 fg13 (regN Tryd.f13 1) (f13_S0 a0 x0 y4 s0)=some (Ex.normal,(f13_S1 a0 x0 y4 s0)) :=
  around_sound (ans:=[(1,Ans.v (bo true)),(7,Ans.v (bo true)),(15,Ans.v (bo false))]) (by kernel_rfl) (ai h0 (ai h1 (ai h2 trivial)))
theorem f13_g1_tf (a0:List Lett)(x0 y4:List Lexm)(s0:ByteArray)(X:Ext)(call:Caller)(lf:Nat)
 (h0:callv X call false 14 [] [] 0=some (bo true,[]))
 (h1:callv X call false 15 [lro x0.length 5 (List.flatMap lexC x0)] [] 0=some (bo false,[])):vexec Tryd.prog X call lf 0 fg13 (regN Tryd.f13 1) (f13_S0 a0 x0 y4 s0)=some (Ex.normal,(f13_S1 a0 x0 y4 s0)) :=
  around_sound (ans:=[(1,Ans.v (bo true)),(7,Ans.v (bo false))]) (by kernel_rfl) (ai h0 (ai h1 trivial))
def f13_S2 (a0:List Lett)(x0 y4:List Lexm)(s0:ByteArray)(b38:Bool):St :=
  stOf 109 [17,18,19,20,21,22,23,24,25,26,27,28,29,30,31,32,33,34,35,36,37] [(0,lro a0.length 2 (List.flatMap lettC a0)),(1,lro x0.length 5 (List.flatMap lexC x0)),(2,lro y4.length 5 (List.flatMap lexC y4)),(3,st s0),(8,bo false),(38,bo b38)] []
theorem f13_ptt (a0:List Lett)(x0 y4:List Lexm)(s0:ByteArray)(b38:Bool)(X:Ext)(call:Caller)(lf:Nat)
 (h0:vexec Tryd.prog X call lf 0 fg13 (regN Tryd.f13 1) (f13_S0 a0 x0 y4 s0)=some (Ex.normal,(f13_S2 a0 x0 y4 s0 b38)))
 (h1:b38=true)
 (h2:callv X call false 14 [] [] 0=some (bo true,[])):vbody Tryd.prog X call lf fg13 Tryd.f13 (codeOf Tryd.f13) [lettsV a0,lexsV x0,lexsV y4,st s0] [] 0=some (bo true,[]) :=
  along_sound (ans:=[(2,Ans.l Ex.normal (f13_S2 a0 x0 y4 s0 b38)),(3,Ans.b true),(5,Ans.v (bo true))]) (by kernel_rfl) (ai h0 (ai h1 (ai h2 trivial)))
theorem f13_pftt (a0:List Lett)(x0 y4:List Lexm)(s0:ByteArray)(b38:Bool)(X:Ext)(call:Caller)(lf a:Nat)(c:List AV)(d:Int)
 (h0:vexec Tryd.prog X call lf 0 fg13 (regN Tryd.f13 1) (f13_S0 a0 x0 y4 s0)=some (Ex.normal,(f13_S2 a0 x0 y4 s0 b38)))
 (h1:b38=false)
 (h2:callv X call false 36 [lro x0.length 5 (List.flatMap lexC x0),lro y4.length 5 (List.flatMap lexC y4)] [] 0=some (AV.tup [lro a 5 c,i6 d],[]))
 (h3:(d != 0)=true)
 (h4:((↑a:Int) == 0)=true):vbody Tryd.prog X call lf fg13 Tryd.f13 (codeOf Tryd.f13) [lettsV a0,lexsV x0,lexsV y4,st s0] [] 0=some (bo true,[]) :=
  along_sound (ans:=[(2,Ans.l Ex.normal (f13_S2 a0 x0 y4 s0 b38)),(3,Ans.b false),(7,Ans.v (AV.tup [lro a 5 c,i6 d])),(15,Ans.b true),(20,Ans.b true)]) (by kernel_rfl) (ai h0 (ai h1 (ai h2 (ai h3 (ai h4 trivial)))))
def f13_S3 (a0:List Lett)(x0 y4:List Lexm)(s0:ByteArray)(b38:Bool)(a:Nat)(b:List AV)(c:Int):St :=
  stOf 109 [17,18,19,20,21,22,23,24,25,26,27,28,29,30,31,32,33,34,35,36,37,40,41,42,43,44,45,46] [(0,lro a0.length 2 (List.flatMap lettC a0)),(1,lro x0.length 5 (List.flatMap lexC x0)),(2,lro y4.length 5 (List.flatMap lexC y4)),(3,st s0),(8,bo false),(9,lro a 5 b),(10,i6 c),(38,bo b38),(47,bo false)] []
theorem f13_g6_t (a0:List Lett)(x0 y4:List Lexm)(s0:ByteArray)(b38:Bool)(X:Ext)(call:Caller)(lf a:Nat)(c:List AV)(d:Int)(e g h j:ByteArray)(k:Nat)(p:List AV)(q:Bool)
 (h0:callv X call false 26 [lro x0.length 5 (List.flatMap lexC x0),st s0] [] 0=some (AV.tup [AV.agg [st e,st g,st h,st j,lro k 2 p],bo q],[]))
 (h1:q=true):vexec Tryd.prog X call lf 0 fg13 (regN Tryd.f13 6) (f13_S3 a0 x0 y4 s0 b38 a c d)=some (Ex.normal,stOf 109 [17,18,19,20,21,22,23,24,25,26,27,28,29,30,31,32,33,34,35,36,37,40,41,42,43,44,45,46,51,52,53,54,55,56] [(0,lro a0.length 2 (List.flatMap lettC a0)),(1,lro x0.length 5 (List.flatMap lexC x0)),(2,lro y4.length 5 (List.flatMap lexC y4)),(3,st s0),(8,bo false),(9,lro a 5 c),(10,i6 d),(11,AV.ref 0 0),(12,bo true),(38,bo b38),(47,bo false)] [Ob.cells [st e,st g,st h,st j,lro k 2 p]]) :=
  around_sound (ans:=[(3,Ans.v (AV.tup [AV.agg [st e,st g,st h,st j,lro k 2 p],bo q])),(6,Ans.b true)]) (by kernel_rfl) (ai h0 (ai h1 trivial))
theorem f13_g6_f (a0:List Lett)(x0 y4:List Lexm)(s0:ByteArray)(b38:Bool)(X:Ext)(call:Caller)(lf a:Nat)(c:List AV)(d:Int)(e g h j:ByteArray)(k:Nat)(p:List AV)(q:Bool)
 (h0:callv X call false 26 [lro x0.length 5 (List.flatMap lexC x0),st s0] [] 0=some (AV.tup [AV.agg [st e,st g,st h,st j,lro k 2 p],bo q],[]))
 (h1:q=false):vexec Tryd.prog X call lf 0 fg13 (regN Tryd.f13 6) (f13_S3 a0 x0 y4 s0 b38 a c d)=some (Ex.normal,stOf 109 [17,18,19,20,21,22,23,24,25,26,27,28,29,30,31,32,33,34,35,36,37,40,41,42,43,44,45,46,51,52,53,54,55,56] [(0,lro a0.length 2 (List.flatMap lettC a0)),(1,lro x0.length 5 (List.flatMap lexC x0)),(2,lro y4.length 5 (List.flatMap lexC y4)),(3,st s0),(8,bo false),(9,lro a 5 c),(10,i6 d),(11,AV.ref 0 0),(12,bo false),(38,bo b38),(47,bo false)] [Ob.cells [st e,st g,st h,st j,lro k 2 p]]) :=
  around_sound (ans:=[(3,Ans.v (AV.tup [AV.agg [st e,st g,st h,st j,lro k 2 p],bo q])),(6,Ans.b false)]) (by kernel_rfl) (ai h0 (ai h1 trivial))
def f13_S4 (a0:List Lett)(x0 y4:List Lexm)(s0:ByteArray)(b38:Bool)(p4:Lexm)(b12:Bool)(a:Nat)(b:List AV)(c:Int):St :=
  stOf 109 [17,18,19,20,21,22,23,24,25,26,27,28,29,30,31,32,33,34,35,36,37,40,41,42,43,44,45,46,51,52,53,54,55,56] [(0,lro a0.length 2 (List.flatMap lettC a0)),(1,lro x0.length 5 (List.flatMap lexC x0)),(2,lro y4.length 5 (List.flatMap lexC y4)),(3,st s0),(8,bo false),(9,lro a 5 b),(10,i6 c),(11,AV.ref 0 0),(12,bo b12),(38,bo b38),(47,bo false)] [Ob.cells [st (Lexm.id p4),st (Lexm.cat p4),st (Lexm.stem p4),st (Lexm.par p4),lro (List.length (Lexm.feats p4)) 2 (List.flatMap featC (Lexm.feats p4))]]
theorem f13_g7_t (a0:List Lett)(x0 y4:List Lexm)(s0:ByteArray)(b38:Bool)(p4:Lexm)(b12:Bool)(X:Ext)(call:Caller)(lf a:Nat)(c:List AV)(d:Int)(e g h j:ByteArray)(k:Nat)(p:List AV)(q:Bool)
 (h0:callv X call false 26 [lro y4.length 5 (List.flatMap lexC y4),st s0] [Ob.cells [st (Lexm.id p4),st (Lexm.cat p4),st (Lexm.stem p4),st (Lexm.par p4),lro (List.length (Lexm.feats p4)) 2 (List.flatMap featC (Lexm.feats p4))]] 0=some (AV.tup [AV.agg [st e,st g,st h,st j,lro k 2 p],bo q],[Ob.cells [st (Lexm.id p4),st (Lexm.cat p4),st (Lexm.stem p4),st (Lexm.par p4),lro (List.length (Lexm.feats p4)) 2 (List.flatMap featC (Lexm.feats p4))]]))
 (h1:q=true):vexec Tryd.prog X call lf 0 fg13 (regN Tryd.f13 7) (f13_S4 a0 x0 y4 s0 b38 p4 b12 a c d)=some (Ex.normal,stOf 109 [17,18,19,20,21,22,23,24,25,26,27,28,29,30,31,32,33,34,35,36,37,40,41,42,43,44,45,46,51,52,53,54,55,56,57,58,59,60,61,62] [(0,lro a0.length 2 (List.flatMap lettC a0)),(1,lro x0.length 5 (List.flatMap lexC x0)),(2,lro y4.length 5 (List.flatMap lexC y4)),(3,st s0),(8,bo false),(9,lro a 5 c),(10,i6 d),(11,AV.ref 0 0),(12,bo b12),(13,AV.ref 1 0),(14,bo true),(38,bo b38),(47,bo false)] [Ob.cells [st (Lexm.id p4),st (Lexm.cat p4),st (Lexm.stem p4),st (Lexm.par p4),lro (List.length (Lexm.feats p4)) 2 (List.flatMap featC (Lexm.feats p4))],Ob.cells [st e,st g,st h,st j,lro k 2 p]]) :=
  around_sound (ans:=[(3,Ans.v (AV.tup [AV.agg [st e,st g,st h,st j,lro k 2 p],bo q])),(6,Ans.b true)]) (by kernel_rfl) (ai h0 (ai h1 trivial))
theorem f13_g7_f (a0:List Lett)(x0 y4:List Lexm)(s0:ByteArray)(b38:Bool)(p4:Lexm)(b12:Bool)(X:Ext)(call:Caller)(lf a:Nat)(c:List AV)(d:Int)(e g h j:ByteArray)(k:Nat)(p:List AV)(q:Bool)
 (h0:callv X call false 26 [lro y4.length 5 (List.flatMap lexC y4),st s0] [Ob.cells [st (Lexm.id p4),st (Lexm.cat p4),st (Lexm.stem p4),st (Lexm.par p4),lro (List.length (Lexm.feats p4)) 2 (List.flatMap featC (Lexm.feats p4))]] 0=some (AV.tup [AV.agg [st e,st g,st h,st j,lro k 2 p],bo q],[Ob.cells [st (Lexm.id p4),st (Lexm.cat p4),st (Lexm.stem p4),st (Lexm.par p4),lro (List.length (Lexm.feats p4)) 2 (List.flatMap featC (Lexm.feats p4))]]))
 (h1:q=false):vexec Tryd.prog X call lf 0 fg13 (regN Tryd.f13 7) (f13_S4 a0 x0 y4 s0 b38 p4 b12 a c d)=some (Ex.normal,stOf 109 [17,18,19,20,21,22,23,24,25,26,27,28,29,30,31,32,33,34,35,36,37,40,41,42,43,44,45,46,51,52,53,54,55,56,57,58,59,60,61,62] [(0,lro a0.length 2 (List.flatMap lettC a0)),(1,lro x0.length 5 (List.flatMap lexC x0)),(2,lro y4.length 5 (List.flatMap lexC y4)),(3,st s0),(8,bo false),(9,lro a 5 c),(10,i6 d),(11,AV.ref 0 0),(12,bo b12),(13,AV.ref 1 0),(14,bo false),(38,bo b38),(47,bo false)] [Ob.cells [st (Lexm.id p4),st (Lexm.cat p4),st (Lexm.stem p4),st (Lexm.par p4),lro (List.length (Lexm.feats p4)) 2 (List.flatMap featC (Lexm.feats p4))],Ob.cells [st e,st g,st h,st j,lro k 2 p]]) :=
  around_sound (ans:=[(3,Ans.v (AV.tup [AV.agg [st e,st g,st h,st j,lro k 2 p],bo q])),(6,Ans.b false)]) (by kernel_rfl) (ai h0 (ai h1 trivial))
def f13_S5 (a0:List Lett)(x0 y4:List Lexm)(s0:ByteArray)(b38:Bool)(p4:Lexm)(b12:Bool)(q4:Lexm)(b14:Bool)(a:Nat)(b:List AV)(c:Int):St :=
  stOf 109 [17,18,19,20,21,22,23,24,25,26,27,28,29,30,31,32,33,34,35,36,37,40,41,42,43,44,45,46,51,52,53,54,55,56,57,58,59,60,61,62] [(0,lro a0.length 2 (List.flatMap lettC a0)),(1,lro x0.length 5 (List.flatMap lexC x0)),(2,lro y4.length 5 (List.flatMap lexC y4)),(3,st s0),(8,bo false),(9,lro a 5 b),(10,i6 c),(11,AV.ref 0 0),(12,bo b12),(13,AV.ref 1 0),(14,bo b14),(38,bo b38),(47,bo false)] [Ob.cells [st (Lexm.id p4),st (Lexm.cat p4),st (Lexm.stem p4),st (Lexm.par p4),lro (List.length (Lexm.feats p4)) 2 (List.flatMap featC (Lexm.feats p4))],Ob.cells [st (Lexm.id q4),st (Lexm.cat q4),st (Lexm.stem q4),st (Lexm.par q4),lro (List.length (Lexm.feats q4)) 2 (List.flatMap featC (Lexm.feats q4))]]
theorem f13_g8_t (a0:List Lett)(x0 y4:List Lexm)(s0:ByteArray)(b38:Bool)(p4:Lexm)(b12:Bool)(q4:Lexm)(b14:Bool)(X:Ext)(call:Caller)(lf a:Nat)(c:List AV)(d:Int)(e g h j:ByteArray)(k:Nat)(p:List AV)(q:Bool)
 (h0:callv X call false 26 [lro a 5 c,st s0] [Ob.cells [st (Lexm.id p4),st (Lexm.cat p4),st (Lexm.stem p4),st (Lexm.par p4),lro (List.length (Lexm.feats p4)) 2 (List.flatMap featC (Lexm.feats p4))],Ob.cells [st (Lexm.id q4),st (Lexm.cat q4),st (Lexm.stem q4),st (Lexm.par q4),lro (List.length (Lexm.feats q4)) 2 (List.flatMap featC (Lexm.feats q4))]] 0=some (AV.tup [AV.agg [st e,st g,st h,st j,lro k 2 p],bo q],[Ob.cells [st (Lexm.id p4),st (Lexm.cat p4),st (Lexm.stem p4),st (Lexm.par p4),lro (List.length (Lexm.feats p4)) 2 (List.flatMap featC (Lexm.feats p4))],Ob.cells [st (Lexm.id q4),st (Lexm.cat q4),st (Lexm.stem q4),st (Lexm.par q4),lro (List.length (Lexm.feats q4)) 2 (List.flatMap featC (Lexm.feats q4))]]))
 (h1:q=true):vexec Tryd.prog X call lf 0 fg13 (regN Tryd.f13 8) (f13_S5 a0 x0 y4 s0 b38 p4 b12 q4 b14 a c d)=some (Ex.normal,stOf 109 [17,18,19,20,21,22,23,24,25,26,27,28,29,30,31,32,33,34,35,36,37,40,41,42,43,44,45,46,51,52,53,54,55,56,57,58,59,60,61,62,63,64,65,66,67,68] [(0,lro a0.length 2 (List.flatMap lettC a0)),(1,lro x0.length 5 (List.flatMap lexC x0)),(2,lro y4.length 5 (List.flatMap lexC y4)),(3,st s0),(8,bo false),(9,lro a 5 c),(10,i6 d),(11,AV.ref 0 0),(12,bo b12),(13,AV.ref 1 0),(14,bo b14),(15,AV.ref 2 0),(16,bo true),(38,bo b38),(47,bo false)] [Ob.cells [st (Lexm.id p4),st (Lexm.cat p4),st (Lexm.stem p4),st (Lexm.par p4),lro (List.length (Lexm.feats p4)) 2 (List.flatMap featC (Lexm.feats p4))],Ob.cells [st (Lexm.id q4),st (Lexm.cat q4),st (Lexm.stem q4),st (Lexm.par q4),lro (List.length (Lexm.feats q4)) 2 (List.flatMap featC (Lexm.feats q4))],Ob.cells [st e,st g,st h,st j,lro k 2 p]]) :=
  around_sound (ans:=[(3,Ans.v (AV.tup [AV.agg [st e,st g,st h,st j,lro k 2 p],bo q])),(6,Ans.b true)]) (by kernel_rfl) (ai h0 (ai h1 trivial))
theorem f13_g8_f (a0:List Lett)(x0 y4:List Lexm)(s0:ByteArray)(b38:Bool)(p4:Lexm)(b12:Bool)(q4:Lexm)(b14:Bool)(X:Ext)(call:Caller)(lf a:Nat)(c:List AV)(d:Int)(e g h j:ByteArray)(k:Nat)(p:List AV)(q:Bool)
 (h0:callv X call false 26 [lro a 5 c,st s0] [Ob.cells [st (Lexm.id p4),st (Lexm.cat p4),st (Lexm.stem p4),st (Lexm.par p4),lro (List.length (Lexm.feats p4)) 2 (List.flatMap featC (Lexm.feats p4))],Ob.cells [st (Lexm.id q4),st (Lexm.cat q4),st (Lexm.stem q4),st (Lexm.par q4),lro (List.length (Lexm.feats q4)) 2 (List.flatMap featC (Lexm.feats q4))]] 0=some (AV.tup [AV.agg [st e,st g,st h,st j,lro k 2 p],bo q],[Ob.cells [st (Lexm.id p4),st (Lexm.cat p4),st (Lexm.stem p4),st (Lexm.par p4),lro (List.length (Lexm.feats p4)) 2 (List.flatMap featC (Lexm.feats p4))],Ob.cells [st (Lexm.id q4),st (Lexm.cat q4),st (Lexm.stem q4),st (Lexm.par q4),lro (List.length (Lexm.feats q4)) 2 (List.flatMap featC (Lexm.feats q4))]]))
 (h1:q=false):vexec Tryd.prog X call lf 0 fg13 (regN Tryd.f13 8) (f13_S5 a0 x0 y4 s0 b38 p4 b12 q4 b14 a c d)=some (Ex.normal,stOf 109 [17,18,19,20,21,22,23,24,25,26,27,28,29,30,31,32,33,34,35,36,37,40,41,42,43,44,45,46,51,52,53,54,55,56,57,58,59,60,61,62,63,64,65,66,67,68] [(0,lro a0.length 2 (List.flatMap lettC a0)),(1,lro x0.length 5 (List.flatMap lexC x0)),(2,lro y4.length 5 (List.flatMap lexC y4)),(3,st s0),(8,bo false),(9,lro a 5 c),(10,i6 d),(11,AV.ref 0 0),(12,bo b12),(13,AV.ref 1 0),(14,bo b14),(15,AV.ref 2 0),(16,bo false),(38,bo b38),(47,bo false)] [Ob.cells [st (Lexm.id p4),st (Lexm.cat p4),st (Lexm.stem p4),st (Lexm.par p4),lro (List.length (Lexm.feats p4)) 2 (List.flatMap featC (Lexm.feats p4))],Ob.cells [st (Lexm.id q4),st (Lexm.cat q4),st (Lexm.stem q4),st (Lexm.par q4),lro (List.length (Lexm.feats q4)) 2 (List.flatMap featC (Lexm.feats q4))],Ob.cells [st e,st g,st h,st j,lro k 2 p]]) :=
  around_sound (ans:=[(3,Ans.v (AV.tup [AV.agg [st e,st g,st h,st j,lro k 2 p],bo q])),(6,Ans.b false)]) (by kernel_rfl) (ai h0 (ai h1 trivial))
def f13_S6 (a0:List Lett)(x0 y4:List Lexm)(s0:ByteArray)(b38:Bool)(p4:Lexm)(b12:Bool)(q4:Lexm)(b14:Bool)(w4:Lexm)(b16:Bool)(a:Nat)(b:List AV)(c:Int):St :=
  stOf 109 [17,18,19,20,21,22,23,24,25,26,27,28,29,30,31,32,33,34,35,36,37,40,41,42,43,44,45,46,51,52,53,54,55,56,57,58,59,60,61,62,63,64,65,66,67,68] [(0,lro a0.length 2 (List.flatMap lettC a0)),(1,lro x0.length 5 (List.flatMap lexC x0)),(2,lro y4.length 5 (List.flatMap lexC y4)),(3,st s0),(8,bo false),(9,lro a 5 b),(10,i6 c),(11,AV.ref 0 0),(12,bo b12),(13,AV.ref 1 0),(14,bo b14),(15,AV.ref 2 0),(16,bo b16),(38,bo b38),(47,bo false)] [Ob.cells [st (Lexm.id p4),st (Lexm.cat p4),st (Lexm.stem p4),st (Lexm.par p4),lro (List.length (Lexm.feats p4)) 2 (List.flatMap featC (Lexm.feats p4))],Ob.cells [st (Lexm.id q4),st (Lexm.cat q4),st (Lexm.stem q4),st (Lexm.par q4),lro (List.length (Lexm.feats q4)) 2 (List.flatMap featC (Lexm.feats q4))],Ob.cells [st (Lexm.id w4),st (Lexm.cat w4),st (Lexm.stem w4),st (Lexm.par w4),lro (List.length (Lexm.feats w4)) 2 (List.flatMap featC (Lexm.feats w4))]]
def f13_S7 (a0:List Lett)(x0 y4:List Lexm)(s0:ByteArray)(b38:Bool)(p4:Lexm)(b12:Bool)(q4:Lexm)(b14:Bool)(w4:Lexm)(b16:Bool)(a:Nat)(b:List AV)(c:Int):St :=
  stOf 109 [17,18,19,20,21,22,23,24,25,26,27,28,29,30,31,32,33,34,35,36,37,40,41,42,43,44,45,46,51,52,53,54,55,56,57,58,59,60,61,62,63,64,65,66,67,68,69,70,71,72,73,74,75,76,77,78,79,80,81,82,83,84,85,86,87,88,89,90,91,92,93,94,95] [(0,lro a0.length 2 (List.flatMap lettC a0)),(1,lro x0.length 5 (List.flatMap lexC x0)),(2,lro y4.length 5 (List.flatMap lexC y4)),(3,st s0),(8,bo false),(9,lro a 5 b),(10,i6 c),(11,AV.ref 0 0),(12,bo b12),(13,AV.ref 1 0),(14,bo b14),(15,AV.ref 2 0),(16,bo b16),(38,bo b38),(47,bo false),(96,bo false)] [Ob.cells [st (Lexm.id p4),st (Lexm.cat p4),st (Lexm.stem p4),st (Lexm.par p4),lro (List.length (Lexm.feats p4)) 2 (List.flatMap featC (Lexm.feats p4))],Ob.cells [st (Lexm.id q4),st (Lexm.cat q4),st (Lexm.stem q4),st (Lexm.par q4),lro (List.length (Lexm.feats q4)) 2 (List.flatMap featC (Lexm.feats q4))],Ob.cells [st (Lexm.id w4),st (Lexm.cat w4),st (Lexm.stem w4),st (Lexm.par w4),lro (List.length (Lexm.feats w4)) 2 (List.flatMap featC (Lexm.feats w4))]]
theorem f13_g9_tttttt (a0:List Lett)(x0 y4:List Lexm)(s0:ByteArray)(b38:Bool)(p4:Lexm)(b12:Bool)(q4:Lexm)(b14:Bool)(w4:Lexm)(b16:Bool)(X:Ext)(call:Caller)(lf a:Nat)(c:List AV)(d:Int)
 (h0:b16=true)
 (h1:b12=true)
 (h2:b12=true)
 (h3:callv X call false 25 [AV.agg [st (Lexm.id w4),st (Lexm.cat w4),st (Lexm.stem w4),st (Lexm.par w4),lro (List.length (Lexm.feats w4)) 2 (List.flatMap featC (Lexm.feats w4))],AV.agg [st (Lexm.id p4),st (Lexm.cat p4),st (Lexm.stem p4),st (Lexm.par p4),lro (List.length (Lexm.feats p4)) 2 (List.flatMap featC (Lexm.feats p4))]] [Ob.cells [st (Lexm.id p4),st (Lexm.cat p4),st (Lexm.stem p4),st (Lexm.par p4),lro (List.length (Lexm.feats p4)) 2 (List.flatMap featC (Lexm.feats p4))],Ob.cells [st (Lexm.id q4),st (Lexm.cat q4),st (Lexm.stem q4),st (Lexm.par q4),lro (List.length (Lexm.feats q4)) 2 (List.flatMap featC (Lexm.feats q4))],Ob.cells [st (Lexm.id w4),st (Lexm.cat w4),st (Lexm.stem w4),st (Lexm.par w4),lro (List.length (Lexm.feats w4)) 2 (List.flatMap featC (Lexm.feats w4))]] 0=some (bo true,[Ob.cells [st (Lexm.id p4),st (Lexm.cat p4),st (Lexm.stem p4),st (Lexm.par p4),lro (List.length (Lexm.feats p4)) 2 (List.flatMap featC (Lexm.feats p4))],Ob.cells [st (Lexm.id q4),st (Lexm.cat q4),st (Lexm.stem q4),st (Lexm.par q4),lro (List.length (Lexm.feats q4)) 2 (List.flatMap featC (Lexm.feats q4))],Ob.cells [st (Lexm.id w4),st (Lexm.cat w4),st (Lexm.stem w4),st (Lexm.par w4),lro (List.length (Lexm.feats w4)) 2 (List.flatMap featC (Lexm.feats w4))]]))
 (h4:b14=true)
 (h5:b12=true):vexec Tryd.prog X call lf 0 fg13 (regN Tryd.f13 9) (f13_S6 a0 x0 y4 s0 b38 p4 b12 q4 b14 w4 b16 a c d)=some (Ex.normal,(f13_S7 a0 x0 y4 s0 b38 p4 b12 q4 b14 w4 b16 a c d)) :=
  around_sound (ans:=[(1,Ans.b true),(2,Ans.b true),(9,Ans.b true),(17,Ans.v (bo true)),(25,Ans.b true),(29,Ans.b true)]) (by kernel_rfl) (ai h0 (ai h1 (ai h2 (ai h3 (ai h4 (ai h5 trivial))))))
theorem f13_g9_ttttf (a0:List Lett)(x0 y4:List Lexm)(s0:ByteArray)(b38:Bool)(p4:Lexm)(b12:Bool)(q4:Lexm)(b14:Bool)(w4:Lexm)(b16:Bool)(X:Ext)(call:Caller)(lf a:Nat)(c:List AV)(d:Int)
 (h0:b16=true)
 (h1:b12=true)
 (h2:b12=true)
 (h3:callv X call false 25 [AV.agg [st (Lexm.id w4),st (Lexm.cat w4),st (Lexm.stem w4),st (Lexm.par w4),lro (List.length (Lexm.feats w4)) 2 (List.flatMap featC (Lexm.feats w4))],AV.agg [st (Lexm.id p4),st (Lexm.cat p4),st (Lexm.stem p4),st (Lexm.par p4),lro (List.length (Lexm.feats p4)) 2 (List.flatMap featC (Lexm.feats p4))]] [Ob.cells [st (Lexm.id p4),st (Lexm.cat p4),st (Lexm.stem p4),st (Lexm.par p4),lro (List.length (Lexm.feats p4)) 2 (List.flatMap featC (Lexm.feats p4))],Ob.cells [st (Lexm.id q4),st (Lexm.cat q4),st (Lexm.stem q4),st (Lexm.par q4),lro (List.length (Lexm.feats q4)) 2 (List.flatMap featC (Lexm.feats q4))],Ob.cells [st (Lexm.id w4),st (Lexm.cat w4),st (Lexm.stem w4),st (Lexm.par w4),lro (List.length (Lexm.feats w4)) 2 (List.flatMap featC (Lexm.feats w4))]] 0=some (bo true,[Ob.cells [st (Lexm.id p4),st (Lexm.cat p4),st (Lexm.stem p4),st (Lexm.par p4),lro (List.length (Lexm.feats p4)) 2 (List.flatMap featC (Lexm.feats p4))],Ob.cells [st (Lexm.id q4),st (Lexm.cat q4),st (Lexm.stem q4),st (Lexm.par q4),lro (List.length (Lexm.feats q4)) 2 (List.flatMap featC (Lexm.feats q4))],Ob.cells [st (Lexm.id w4),st (Lexm.cat w4),st (Lexm.stem w4),st (Lexm.par w4),lro (List.length (Lexm.feats w4)) 2 (List.flatMap featC (Lexm.feats w4))]]))
 (h4:b14=false):vexec Tryd.prog X call lf 0 fg13 (regN Tryd.f13 9) (f13_S6 a0 x0 y4 s0 b38 p4 b12 q4 b14 w4 b16 a c d)=some (Ex.normal,(f13_S7 a0 x0 y4 s0 b38 p4 b12 q4 b14 w4 b16 a c d)) :=
  around_sound (ans:=[(1,Ans.b true),(2,Ans.b true),(9,Ans.b true),(17,Ans.v (bo true)),(25,Ans.b false)]) (by kernel_rfl) (ai h0 (ai h1 (ai h2 (ai h3 (ai h4 trivial)))))
theorem f13_g9_tftftft (a0:List Lett)(x0 y4:List Lexm)(s0:ByteArray)(b38:Bool)(p4:Lexm)(b12:Bool)(q4:Lexm)(b14:Bool)(w4:Lexm)(b16:Bool)(X:Ext)(call:Caller)(lf a:Nat)(c:List AV)(d:Int)
 (h0:b16=true)
 (h1:b12=false)
 (h2:b14=true)
 (h3:b12=false)
 (h4:b14=true)
 (h5:b12=false)
 (h6:callv X call false 25 [AV.agg [st (Lexm.id w4),st (Lexm.cat w4),st (Lexm.stem w4),st (Lexm.par w4),lro (List.length (Lexm.feats w4)) 2 (List.flatMap featC (Lexm.feats w4))],AV.agg [st (Lexm.id q4),st (Lexm.cat q4),st (Lexm.stem q4),st (Lexm.par q4),lro (List.length (Lexm.feats q4)) 2 (List.flatMap featC (Lexm.feats q4))]] [Ob.cells [st (Lexm.id p4),st (Lexm.cat p4),st (Lexm.stem p4),st (Lexm.par p4),lro (List.length (Lexm.feats p4)) 2 (List.flatMap featC (Lexm.feats p4))],Ob.cells [st (Lexm.id q4),st (Lexm.cat q4),st (Lexm.stem q4),st (Lexm.par q4),lro (List.length (Lexm.feats q4)) 2 (List.flatMap featC (Lexm.feats q4))],Ob.cells [st (Lexm.id w4),st (Lexm.cat w4),st (Lexm.stem w4),st (Lexm.par w4),lro (List.length (Lexm.feats w4)) 2 (List.flatMap featC (Lexm.feats w4))]] 0=some (bo true,[Ob.cells [st (Lexm.id p4),st (Lexm.cat p4),st (Lexm.stem p4),st (Lexm.par p4),lro (List.length (Lexm.feats p4)) 2 (List.flatMap featC (Lexm.feats p4))],Ob.cells [st (Lexm.id q4),st (Lexm.cat q4),st (Lexm.stem q4),st (Lexm.par q4),lro (List.length (Lexm.feats q4)) 2 (List.flatMap featC (Lexm.feats q4))],Ob.cells [st (Lexm.id w4),st (Lexm.cat w4),st (Lexm.stem w4),st (Lexm.par w4),lro (List.length (Lexm.feats w4)) 2 (List.flatMap featC (Lexm.feats w4))]])):vexec Tryd.prog X call lf 0 fg13 (regN Tryd.f13 9) (f13_S6 a0 x0 y4 s0 b38 p4 b12 q4 b14 w4 b16 a c d)=some (Ex.normal,(f13_S7 a0 x0 y4 s0 b38 p4 b12 q4 b14 w4 b16 a c d)) :=
  around_sound (ans:=[(1,Ans.b true),(2,Ans.b false),(5,Ans.b true),(10,Ans.b false),(22,Ans.b true),(26,Ans.b false),(38,Ans.v (bo true))]) (by kernel_rfl) (ai h0 (ai h1 (ai h2 (ai h3 (ai h4 (ai h5 (ai h6 trivial)))))))
theorem f13_g9_fffff (a0:List Lett)(x0 y4:List Lexm)(s0:ByteArray)(b38:Bool)(p4:Lexm)(b12:Bool)(q4:Lexm)(b14:Bool)(w4:Lexm)(b16:Bool)(X:Ext)(call:Caller)(lf a:Nat)(c:List AV)(d:Int)
 (h0:b16=false)
 (h1:b12=false)
 (h2:b14=false)
 (h3:b12=false)
 (h4:b14=false):vexec Tryd.prog X call lf 0 fg13 (regN Tryd.f13 9) (f13_S6 a0 x0 y4 s0 b38 p4 b12 q4 b14 w4 b16 a c d)=some (Ex.normal,(f13_S7 a0 x0 y4 s0 b38 p4 b12 q4 b14 w4 b16 a c d)) :=
  around_sound (ans:=[(1,Ans.b false),(2,Ans.b false),(5,Ans.b false),(10,Ans.b false),(22,Ans.b false)]) (by kernel_rfl) (ai h0 (ai h1 (ai h2 (ai h3 (ai h4 trivial)))))
def f13_S9 (a0:List Lett)(x0 y4:List Lexm)(s0:ByteArray)(b38:Bool)(p4:Lexm)(b12:Bool)(q4:Lexm)(b14:Bool)(w4:Lexm)(b16 b96:Bool)(a:Nat)(b:List AV)(c:Int):St :=
  stOf 109 [17,18,19,20,21,22,23,24,25,26,27,28,29,30,31,32,33,34,35,36,37,40,41,42,43,44,45,46,51,52,53,54,55,56,57,58,59,60,61,62,63,64,65,66,67,68,69,70,71,72,73,74,75,76,77,78,79,80,81,82,83,84,85,86,87,88,89,90,91,92,93,94,95] [(0,lro a0.length 2 (List.flatMap lettC a0)),(1,lro x0.length 5 (List.flatMap lexC x0)),(2,lro y4.length 5 (List.flatMap lexC y4)),(3,st s0),(8,bo false),(9,lro a 5 b),(10,i6 c),(11,AV.ref 0 0),(12,bo b12),(13,AV.ref 1 0),(14,bo b14),(15,AV.ref 2 0),(16,bo b16),(38,bo b38),(47,bo false),(96,bo b96)] [Ob.cells [st (Lexm.id p4),st (Lexm.cat p4),st (Lexm.stem p4),st (Lexm.par p4),lro (List.length (Lexm.feats p4)) 2 (List.flatMap featC (Lexm.feats p4))],Ob.cells [st (Lexm.id q4),st (Lexm.cat q4),st (Lexm.stem q4),st (Lexm.par q4),lro (List.length (Lexm.feats q4)) 2 (List.flatMap featC (Lexm.feats q4))],Ob.cells [st (Lexm.id w4),st (Lexm.cat w4),st (Lexm.stem w4),st (Lexm.par w4),lro (List.length (Lexm.feats w4)) 2 (List.flatMap featC (Lexm.feats w4))]]
def f13_S10 (a0:List Lett)(x0 y4:List Lexm)(s0:ByteArray)(b38:Bool)(p4:Lexm)(b12:Bool)(q4:Lexm)(b14:Bool)(w4:Lexm)(b16 b96:Bool)(a:Nat)(b:List AV)(c:Int):St :=
  stOf 109 [17,18,19,20,21,22,23,24,25,26,27,28,29,30,31,32,33,34,35,36,37,40,41,42,43,44,45,46,51,52,53,54,55,56,57,58,59,60,61,62,63,64,65,66,67,68,69,70,71,72,73,74,75,76,77,78,79,80,81,82,83,84,85,86,87,88,89,90,91,92,93,94,95,97,98,99,100,101,102,103,104,105,106,107,108] [(0,lro a0.length 2 (List.flatMap lettC a0)),(1,lro x0.length 5 (List.flatMap lexC x0)),(2,lro y4.length 5 (List.flatMap lexC y4)),(3,st s0),(8,bo true),(9,lro a 5 b),(10,i6 c),(11,AV.ref 0 0),(12,bo b12),(13,AV.ref 1 0),(14,bo b14),(15,AV.ref 2 0),(16,bo b16),(38,bo b38),(47,bo false),(96,bo b96)] [Ob.cells [st (Lexm.id p4),st (Lexm.cat p4),st (Lexm.stem p4),st (Lexm.par p4),lro (List.length (Lexm.feats p4)) 2 (List.flatMap featC (Lexm.feats p4))],Ob.cells [st (Lexm.id q4),st (Lexm.cat q4),st (Lexm.stem q4),st (Lexm.par q4),lro (List.length (Lexm.feats q4)) 2 (List.flatMap featC (Lexm.feats q4))],Ob.cells [st (Lexm.id w4),st (Lexm.cat w4),st (Lexm.stem w4),st (Lexm.par w4),lro (List.length (Lexm.feats w4)) 2 (List.flatMap featC (Lexm.feats w4))]]
theorem f13_g11_ttt (a0:List Lett)(x0 y4:List Lexm)(s0:ByteArray)(b38:Bool)(p4:Lexm)(b12:Bool)(q4:Lexm)(b14:Bool)(w4:Lexm)(b16 b96:Bool)(X:Ext)(call:Caller)(lf a:Nat)(b:List AV)(c:Int)
 (h0:callv X call false 38 [lro a0.length 2 (List.flatMap lettC a0),lro a 5 b] [Ob.cells [st (Lexm.id p4),st (Lexm.cat p4),st (Lexm.stem p4),st (Lexm.par p4),lro (List.length (Lexm.feats p4)) 2 (List.flatMap featC (Lexm.feats p4))],Ob.cells [st (Lexm.id q4),st (Lexm.cat q4),st (Lexm.stem q4),st (Lexm.par q4),lro (List.length (Lexm.feats q4)) 2 (List.flatMap featC (Lexm.feats q4))],Ob.cells [st (Lexm.id w4),st (Lexm.cat w4),st (Lexm.stem w4),st (Lexm.par w4),lro (List.length (Lexm.feats w4)) 2 (List.flatMap featC (Lexm.feats w4))]] 0=some (bo true,[Ob.cells [st (Lexm.id p4),st (Lexm.cat p4),st (Lexm.stem p4),st (Lexm.par p4),lro (List.length (Lexm.feats p4)) 2 (List.flatMap featC (Lexm.feats p4))],Ob.cells [st (Lexm.id q4),st (Lexm.cat q4),st (Lexm.stem q4),st (Lexm.par q4),lro (List.length (Lexm.feats q4)) 2 (List.flatMap featC (Lexm.feats q4))],Ob.cells [st (Lexm.id w4),st (Lexm.cat w4),st (Lexm.stem w4),st (Lexm.par w4),lro (List.length (Lexm.feats w4)) 2 (List.flatMap featC (Lexm.feats w4))]]))
 (h1:callv X call false 38 [lro a0.length 2 (List.flatMap lettC a0),lro x0.length 5 (List.flatMap lexC x0)] [Ob.cells [st (Lexm.id p4),st (Lexm.cat p4),st (Lexm.stem p4),st (Lexm.par p4),lro (List.length (Lexm.feats p4)) 2 (List.flatMap featC (Lexm.feats p4))],Ob.cells [st (Lexm.id q4),st (Lexm.cat q4),st (Lexm.stem q4),st (Lexm.par q4),lro (List.length (Lexm.feats q4)) 2 (List.flatMap featC (Lexm.feats q4))],Ob.cells [st (Lexm.id w4),st (Lexm.cat w4),st (Lexm.stem w4),st (Lexm.par w4),lro (List.length (Lexm.feats w4)) 2 (List.flatMap featC (Lexm.feats w4))]] 0=some (bo true,[Ob.cells [st (Lexm.id p4),st (Lexm.cat p4),st (Lexm.stem p4),st (Lexm.par p4),lro (List.length (Lexm.feats p4)) 2 (List.flatMap featC (Lexm.feats p4))],Ob.cells [st (Lexm.id q4),st (Lexm.cat q4),st (Lexm.stem q4),st (Lexm.par q4),lro (List.length (Lexm.feats q4)) 2 (List.flatMap featC (Lexm.feats q4))],Ob.cells [st (Lexm.id w4),st (Lexm.cat w4),st (Lexm.stem w4),st (Lexm.par w4),lro (List.length (Lexm.feats w4)) 2 (List.flatMap featC (Lexm.feats w4))]]))
 (h2:callv X call false 38 [lro a0.length 2 (List.flatMap lettC a0),lro y4.length 5 (List.flatMap lexC y4)] [Ob.cells [st (Lexm.id p4),st (Lexm.cat p4),st (Lexm.stem p4),st (Lexm.par p4),lro (List.length (Lexm.feats p4)) 2 (List.flatMap featC (Lexm.feats p4))],Ob.cells [st (Lexm.id q4),st (Lexm.cat q4),st (Lexm.stem q4),st (Lexm.par q4),lro (List.length (Lexm.feats q4)) 2 (List.flatMap featC (Lexm.feats q4))],Ob.cells [st (Lexm.id w4),st (Lexm.cat w4),st (Lexm.stem w4),st (Lexm.par w4),lro (List.length (Lexm.feats w4)) 2 (List.flatMap featC (Lexm.feats w4))]] 0=some (bo true,[Ob.cells [st (Lexm.id p4),st (Lexm.cat p4),st (Lexm.stem p4),st (Lexm.par p4),lro (List.length (Lexm.feats p4)) 2 (List.flatMap featC (Lexm.feats p4))],Ob.cells [st (Lexm.id q4),st (Lexm.cat q4),st (Lexm.stem q4),st (Lexm.par q4),lro (List.length (Lexm.feats q4)) 2 (List.flatMap featC (Lexm.feats q4))],Ob.cells [st (Lexm.id w4),st (Lexm.cat w4),st (Lexm.stem w4),st (Lexm.par w4),lro (List.length (Lexm.feats w4)) 2 (List.flatMap featC (Lexm.feats w4))]])):vexec Tryd.prog X call lf 0 fg13 (regN Tryd.f13 11) (f13_S9 a0 x0 y4 s0 b38 p4 b12 q4 b14 w4 b16 b96 a b c)=some (Ex.normal,(f13_S10 a0 x0 y4 s0 b38 p4 b12 q4 b14 w4 b16 b96 a b c)) :=
  around_sound (ans:=[(3,Ans.v (bo true)),(6,Ans.v (bo true)),(13,Ans.v (bo true))]) (by kernel_rfl) (ai h0 (ai h1 (ai h2 trivial)))
theorem f13_g11_ftf (a0:List Lett)(x0 y4:List Lexm)(s0:ByteArray)(b38:Bool)(p4:Lexm)(b12:Bool)(q4:Lexm)(b14:Bool)(w4:Lexm)(b16 b96:Bool)(X:Ext)(call:Caller)(lf a:Nat)(b:List AV)(c:Int)
 (h0:callv X call false 38 [lro a0.length 2 (List.flatMap lettC a0),lro a 5 b] [Ob.cells [st (Lexm.id p4),st (Lexm.cat p4),st (Lexm.stem p4),st (Lexm.par p4),lro (List.length (Lexm.feats p4)) 2 (List.flatMap featC (Lexm.feats p4))],Ob.cells [st (Lexm.id q4),st (Lexm.cat q4),st (Lexm.stem q4),st (Lexm.par q4),lro (List.length (Lexm.feats q4)) 2 (List.flatMap featC (Lexm.feats q4))],Ob.cells [st (Lexm.id w4),st (Lexm.cat w4),st (Lexm.stem w4),st (Lexm.par w4),lro (List.length (Lexm.feats w4)) 2 (List.flatMap featC (Lexm.feats w4))]] 0=some (bo false,[Ob.cells [st (Lexm.id p4),st (Lexm.cat p4),st (Lexm.stem p4),st (Lexm.par p4),lro (List.length (Lexm.feats p4)) 2 (List.flatMap featC (Lexm.feats p4))],Ob.cells [st (Lexm.id q4),st (Lexm.cat q4),st (Lexm.stem q4),st (Lexm.par q4),lro (List.length (Lexm.feats q4)) 2 (List.flatMap featC (Lexm.feats q4))],Ob.cells [st (Lexm.id w4),st (Lexm.cat w4),st (Lexm.stem w4),st (Lexm.par w4),lro (List.length (Lexm.feats w4)) 2 (List.flatMap featC (Lexm.feats w4))]]))
 (h1:callv X call false 38 [lro a0.length 2 (List.flatMap lettC a0),lro x0.length 5 (List.flatMap lexC x0)] [Ob.cells [st (Lexm.id p4),st (Lexm.cat p4),st (Lexm.stem p4),st (Lexm.par p4),lro (List.length (Lexm.feats p4)) 2 (List.flatMap featC (Lexm.feats p4))],Ob.cells [st (Lexm.id q4),st (Lexm.cat q4),st (Lexm.stem q4),st (Lexm.par q4),lro (List.length (Lexm.feats q4)) 2 (List.flatMap featC (Lexm.feats q4))],Ob.cells [st (Lexm.id w4),st (Lexm.cat w4),st (Lexm.stem w4),st (Lexm.par w4),lro (List.length (Lexm.feats w4)) 2 (List.flatMap featC (Lexm.feats w4))]] 0=some (bo true,[Ob.cells [st (Lexm.id p4),st (Lexm.cat p4),st (Lexm.stem p4),st (Lexm.par p4),lro (List.length (Lexm.feats p4)) 2 (List.flatMap featC (Lexm.feats p4))],Ob.cells [st (Lexm.id q4),st (Lexm.cat q4),st (Lexm.stem q4),st (Lexm.par q4),lro (List.length (Lexm.feats q4)) 2 (List.flatMap featC (Lexm.feats q4))],Ob.cells [st (Lexm.id w4),st (Lexm.cat w4),st (Lexm.stem w4),st (Lexm.par w4),lro (List.length (Lexm.feats w4)) 2 (List.flatMap featC (Lexm.feats w4))]]))
 (h2:callv X call false 38 [lro a0.length 2 (List.flatMap lettC a0),lro y4.length 5 (List.flatMap lexC y4)] [Ob.cells [st (Lexm.id p4),st (Lexm.cat p4),st (Lexm.stem p4),st (Lexm.par p4),lro (List.length (Lexm.feats p4)) 2 (List.flatMap featC (Lexm.feats p4))],Ob.cells [st (Lexm.id q4),st (Lexm.cat q4),st (Lexm.stem q4),st (Lexm.par q4),lro (List.length (Lexm.feats q4)) 2 (List.flatMap featC (Lexm.feats q4))],Ob.cells [st (Lexm.id w4),st (Lexm.cat w4),st (Lexm.stem w4),st (Lexm.par w4),lro (List.length (Lexm.feats w4)) 2 (List.flatMap featC (Lexm.feats w4))]] 0=some (bo false,[Ob.cells [st (Lexm.id p4),st (Lexm.cat p4),st (Lexm.stem p4),st (Lexm.par p4),lro (List.length (Lexm.feats p4)) 2 (List.flatMap featC (Lexm.feats p4))],Ob.cells [st (Lexm.id q4),st (Lexm.cat q4),st (Lexm.stem q4),st (Lexm.par q4),lro (List.length (Lexm.feats q4)) 2 (List.flatMap featC (Lexm.feats q4))],Ob.cells [st (Lexm.id w4),st (Lexm.cat w4),st (Lexm.stem w4),st (Lexm.par w4),lro (List.length (Lexm.feats w4)) 2 (List.flatMap featC (Lexm.feats w4))]])):vexec Tryd.prog X call lf 0 fg13 (regN Tryd.f13 11) (f13_S9 a0 x0 y4 s0 b38 p4 b12 q4 b14 w4 b16 b96 a b c)=some (Ex.normal,(f13_S10 a0 x0 y4 s0 b38 p4 b12 q4 b14 w4 b16 b96 a b c)) :=
  around_sound (ans:=[(3,Ans.v (bo false)),(6,Ans.v (bo true)),(13,Ans.v (bo false))]) (by kernel_rfl) (ai h0 (ai h1 (ai h2 trivial)))
theorem f13_g11_ff (a0:List Lett)(x0 y4:List Lexm)(s0:ByteArray)(b38:Bool)(p4:Lexm)(b12:Bool)(q4:Lexm)(b14:Bool)(w4:Lexm)(b16 b96:Bool)(X:Ext)(call:Caller)(lf a:Nat)(b:List AV)(c:Int)
 (h0:callv X call false 38 [lro a0.length 2 (List.flatMap lettC a0),lro a 5 b] [Ob.cells [st (Lexm.id p4),st (Lexm.cat p4),st (Lexm.stem p4),st (Lexm.par p4),lro (List.length (Lexm.feats p4)) 2 (List.flatMap featC (Lexm.feats p4))],Ob.cells [st (Lexm.id q4),st (Lexm.cat q4),st (Lexm.stem q4),st (Lexm.par q4),lro (List.length (Lexm.feats q4)) 2 (List.flatMap featC (Lexm.feats q4))],Ob.cells [st (Lexm.id w4),st (Lexm.cat w4),st (Lexm.stem w4),st (Lexm.par w4),lro (List.length (Lexm.feats w4)) 2 (List.flatMap featC (Lexm.feats w4))]] 0=some (bo false,[Ob.cells [st (Lexm.id p4),st (Lexm.cat p4),st (Lexm.stem p4),st (Lexm.par p4),lro (List.length (Lexm.feats p4)) 2 (List.flatMap featC (Lexm.feats p4))],Ob.cells [st (Lexm.id q4),st (Lexm.cat q4),st (Lexm.stem q4),st (Lexm.par q4),lro (List.length (Lexm.feats q4)) 2 (List.flatMap featC (Lexm.feats q4))],Ob.cells [st (Lexm.id w4),st (Lexm.cat w4),st (Lexm.stem w4),st (Lexm.par w4),lro (List.length (Lexm.feats w4)) 2 (List.flatMap featC (Lexm.feats w4))]]))
 (h1:callv X call false 38 [lro a0.length 2 (List.flatMap lettC a0),lro x0.length 5 (List.flatMap lexC x0)] [Ob.cells [st (Lexm.id p4),st (Lexm.cat p4),st (Lexm.stem p4),st (Lexm.par p4),lro (List.length (Lexm.feats p4)) 2 (List.flatMap featC (Lexm.feats p4))],Ob.cells [st (Lexm.id q4),st (Lexm.cat q4),st (Lexm.stem q4),st (Lexm.par q4),lro (List.length (Lexm.feats q4)) 2 (List.flatMap featC (Lexm.feats q4))],Ob.cells [st (Lexm.id w4),st (Lexm.cat w4),st (Lexm.stem w4),st (Lexm.par w4),lro (List.length (Lexm.feats w4)) 2 (List.flatMap featC (Lexm.feats w4))]] 0=some (bo false,[Ob.cells [st (Lexm.id p4),st (Lexm.cat p4),st (Lexm.stem p4),st (Lexm.par p4),lro (List.length (Lexm.feats p4)) 2 (List.flatMap featC (Lexm.feats p4))],Ob.cells [st (Lexm.id q4),st (Lexm.cat q4),st (Lexm.stem q4),st (Lexm.par q4),lro (List.length (Lexm.feats q4)) 2 (List.flatMap featC (Lexm.feats q4))],Ob.cells [st (Lexm.id w4),st (Lexm.cat w4),st (Lexm.stem w4),st (Lexm.par w4),lro (List.length (Lexm.feats w4)) 2 (List.flatMap featC (Lexm.feats w4))]])):vexec Tryd.prog X call lf 0 fg13 (regN Tryd.f13 11) (f13_S9 a0 x0 y4 s0 b38 p4 b12 q4 b14 w4 b16 b96 a b c)=some (Ex.normal,(f13_S10 a0 x0 y4 s0 b38 p4 b12 q4 b14 w4 b16 b96 a b c)) :=
  around_sound (ans:=[(3,Ans.v (bo false)),(6,Ans.v (bo false))]) (by kernel_rfl) (ai h0 (ai h1 trivial))
def f13_S12 (a0:List Lett)(x0 y4:List Lexm)(s0:ByteArray)(b38:Bool)(p4:Lexm)(b12:Bool)(q4:Lexm)(b14:Bool)(w4:Lexm)(b16 b96 b8:Bool)(a:Nat)(b:List AV)(c:Int):St :=
  stOf 109 [17,18,19,20,21,22,23,24,25,26,27,28,29,30,31,32,33,34,35,36,37,40,41,42,43,44,45,46,51,52,53,54,55,56,57,58,59,60,61,62,63,64,65,66,67,68,69,70,71,72,73,74,75,76,77,78,79,80,81,82,83,84,85,86,87,88,89,90,91,92,93,94,95,97,98,99,100,101,102,103,104,105,106,107,108] [(0,lro a0.length 2 (List.flatMap lettC a0)),(1,lro x0.length 5 (List.flatMap lexC x0)),(2,lro y4.length 5 (List.flatMap lexC y4)),(3,st s0),(8,bo b8),(9,lro a 5 b),(10,i6 c),(11,AV.ref 0 0),(12,bo b12),(13,AV.ref 1 0),(14,bo b14),(15,AV.ref 2 0),(16,bo b16),(38,bo b38),(47,bo false),(96,bo b96)] [Ob.cells [st (Lexm.id p4),st (Lexm.cat p4),st (Lexm.stem p4),st (Lexm.par p4),lro (List.length (Lexm.feats p4)) 2 (List.flatMap featC (Lexm.feats p4))],Ob.cells [st (Lexm.id q4),st (Lexm.cat q4),st (Lexm.stem q4),st (Lexm.par q4),lro (List.length (Lexm.feats q4)) 2 (List.flatMap featC (Lexm.feats q4))],Ob.cells [st (Lexm.id w4),st (Lexm.cat w4),st (Lexm.stem w4),st (Lexm.par w4),lro (List.length (Lexm.feats w4)) 2 (List.flatMap featC (Lexm.feats w4))]]
theorem f13_pfff (a0:List Lett)(x0 y4:List Lexm)(s0:ByteArray)(b38:Bool)(p4:Lexm)(b12:Bool)(q4:Lexm)(b14:Bool)(w4:Lexm)(b16 b96 b8:Bool)(X:Ext)(call:Caller)(lf a:Nat)(c:List AV)(d:Int)
 (h0:vexec Tryd.prog X call lf 0 fg13 (regN Tryd.f13 1) (f13_S0 a0 x0 y4 s0)=some (Ex.normal,(f13_S2 a0 x0 y4 s0 b38)))
 (h1:b38=false)
 (h2:callv X call false 36 [lro x0.length 5 (List.flatMap lexC x0),lro y4.length 5 (List.flatMap lexC y4)] [] 0=some (AV.tup [lro a 5 c,i6 d],[]))
 (h3:(d != 0)=false)
 (h4:vexec Tryd.prog X call lf 0 fg13 (regN Tryd.f13 6) (f13_S3 a0 x0 y4 s0 b38 a c d)=some (Ex.normal,(f13_S4 a0 x0 y4 s0 b38 p4 b12 a c d)))
 (h5:vexec Tryd.prog X call lf 0 fg13 (regN Tryd.f13 7) (f13_S4 a0 x0 y4 s0 b38 p4 b12 a c d)=some (Ex.normal,(f13_S5 a0 x0 y4 s0 b38 p4 b12 q4 b14 a c d)))
 (h6:vexec Tryd.prog X call lf 0 fg13 (regN Tryd.f13 8) (f13_S5 a0 x0 y4 s0 b38 p4 b12 q4 b14 a c d)=some (Ex.normal,(f13_S6 a0 x0 y4 s0 b38 p4 b12 q4 b14 w4 b16 a c d)))
 (h7:vexec Tryd.prog X call lf 0 fg13 (regN Tryd.f13 9) (f13_S6 a0 x0 y4 s0 b38 p4 b12 q4 b14 w4 b16 a c d)=some (Ex.normal,(f13_S9 a0 x0 y4 s0 b38 p4 b12 q4 b14 w4 b16 b96 a c d)))
 (h8:b96=false)
 (h9:vexec Tryd.prog X call lf 0 fg13 (regN Tryd.f13 11) (f13_S9 a0 x0 y4 s0 b38 p4 b12 q4 b14 w4 b16 b96 a c d)=some (Ex.normal,(f13_S12 a0 x0 y4 s0 b38 p4 b12 q4 b14 w4 b16 b96 b8 a c d))):vbody Tryd.prog X call lf fg13 Tryd.f13 (codeOf Tryd.f13) [lettsV a0,lexsV x0,lexsV y4,st s0] [] 0=some (bo b8,[Ob.cells [st (Lexm.id p4),st (Lexm.cat p4),st (Lexm.stem p4),st (Lexm.par p4),lro (List.length (Lexm.feats p4)) 2 (List.flatMap featC (Lexm.feats p4))],Ob.cells [st (Lexm.id q4),st (Lexm.cat q4),st (Lexm.stem q4),st (Lexm.par q4),lro (List.length (Lexm.feats q4)) 2 (List.flatMap featC (Lexm.feats q4))],Ob.cells [st (Lexm.id w4),st (Lexm.cat w4),st (Lexm.stem w4),st (Lexm.par w4),lro (List.length (Lexm.feats w4)) 2 (List.flatMap featC (Lexm.feats w4))]]) :=
  along_sound (ans:=[(2,Ans.l Ex.normal (f13_S2 a0 x0 y4 s0 b38)),(3,Ans.b false),(7,Ans.v (AV.tup [lro a 5 c,i6 d])),(15,Ans.b false),(17,Ans.l Ex.normal (f13_S4 a0 x0 y4 s0 b38 p4 b12 a c d)),(18,Ans.l Ex.normal (f13_S5 a0 x0 y4 s0 b38 p4 b12 q4 b14 a c d)),(19,Ans.l Ex.normal (f13_S6 a0 x0 y4 s0 b38 p4 b12 q4 b14 w4 b16 a c d)),(20,Ans.l Ex.normal (f13_S9 a0 x0 y4 s0 b38 p4 b12 q4 b14 w4 b16 b96 a c d)),(21,Ans.b false),(22,Ans.l Ex.normal (f13_S12 a0 x0 y4 s0 b38 p4 b12 q4 b14 w4 b16 b96 b8 a c d))]) (by kernel_rfl) (ai h0 (ai h1 (ai h2 (ai h3 (ai h4 (ai h5 (ai h6 (ai h7 (ai h8 (ai h9 trivial))))))))))
end Go.Proofs.Lex
end
/- Lexicon: Concat, Grow, and filter by a closure that captures nothing (printed) -/
section
open Go Go.Vm Go.Proofs
namespace Go.Proofs.Lex
theorem f90_pt (n0:Nat)(z0:List AV)(X:Ext)(call:Caller)(lf:Nat)
 (h0:decide (w6 ((↑n0:Int) - 0)>0)=true)
 (h1:appendZv Tryd.prog 22 3 [] (AV.list LK.nil 0 0 []) (i6 (w6 ((↑n0:Int) - 0)))=some (AV.own 0 n0,[Ob.arr n0 5 z0]))
 (h2:slc Tryd.prog 22 [Ob.arr n0 5 z0] false 0 (AV.own 0 n0) none (some (i6 0)) none=some (AV.own 1 0,[Ob.gone,Ob.arr 0 5 []])):vbody Tryd.prog X call lf noFg Tryd.f90 (codeOf Tryd.f90) [AV.list LK.nil 0 0 [],i6 (↑n0:Int)] [] 0=some (AV.list LK.fresh 0 5 [],[Ob.gone,Ob.fro 0 5 []]) :=
  along_sound (ans:=[(17,Ans.b true),(25,Ans.c (AV.own 0 n0) [Ob.arr n0 5 z0]),(28,Ans.c (AV.own 1 0) [Ob.gone,Ob.arr 0 5 []])]) (by kernel_rfl) (ai h0 (ai h1 (ai h2 trivial)))
theorem f90_pf (n0:Nat)(X:Ext)(call:Caller)(lf:Nat)
 (h0:decide (w6 ((↑n0:Int) - 0)>0)=false):vbody Tryd.prog X call lf noFg Tryd.f90 (codeOf Tryd.f90) [AV.list LK.nil 0 0 [],i6 (↑n0:Int)] [] 0=some (AV.list LK.nil 0 0 [],[]) :=
  along_sound (ans:=[(17,Ans.b false)]) (by kernel_rfl) (ai h0 trivial)
def f68_F0 (L0 L1:List Lexm)(n0:Nat→Int)(i0:Nat):St :=
  stOf 36 [5,12,13,14,15,16,17,18,19,20,21,22] [(0,lro 2 1 [lro L0.length 5 (List.flatMap lexC L0),lro L1.length 5 (List.flatMap lexC L1)]),(2,AV.list LK.nil 0 0 []),(3,i6 (n0 i0)),(9,lro 2 1 [lro L0.length 5 (List.flatMap lexC L0),lro L1.length 5 (List.flatMap lexC L1)]),(10,i6 2),(11,i6 (↑i0:Int))] []
def f68_S0 (L0 L1:List Lexm):St :=
  stOf 36 [] [(0,lro 2 1 [lro L0.length 5 (List.flatMap lexC L0),lro L1.length 5 (List.flatMap lexC L1)]),(2,AV.list LK.nil 0 0 []),(3,i6 0),(9,lro 2 1 [lro L0.length 5 (List.flatMap lexC L0),lro L1.length 5 (List.flatMap lexC L1)]),(10,i6 2),(11,i6 0)] []
abbrev f68_D0:List Nat:=[22,21,20,19,18,17,16,15,5,14,13,12]
theorem f68_L0 (L0 L1:List Lexm)(n0:Nat→Int)(X:Ext)(call:Caller)(lf n:Nat)(x:Ex) (S' : St)
 (e0:n0 0=0)
 (hn:n<lf)
 (hs:∀ j,j<n→∃ Sx,vexec Tryd.prog X call lf 0 noFg (loopN Tryd.f68 0) (f68_F0 L0 L1 n0 j)=some (Ex.normal,Sx)∧forget f68_D0 Sx=(f68_F0 L0 L1 n0 (j + 1)))
 (he:vexec Tryd.prog X call lf 0 noFg (loopN Tryd.f68 0) (f68_F0 L0 L1 n0 n)=some (x,S'))
 (hx:x ≠ Ex.normal):vexec Tryd.prog X call lf 0 noFg (Go.Code.loop (loopN Tryd.f68 0)) (f68_S0 L0 L1)=some (x,S') :=
  loop_runK (by kernel_rfl) (fun j=>(f68_F0 L0 L1 n0 j)) n hn (by show forget f68_D0 (f68_S0 L0 L1)=(f68_F0 L0 L1 n0 0); unfold f68_F0; rw [e0]; show _=_; kernel_rfl) hs he hx
theorem f68_s0_tf (L0 L1:List Lexm)(n0:Nat→Int)(X:Ext)(call:Caller)(lf i0 a:Nat)(c r13:List AV)
 (h0:decide ((↑i0:Int)<2)=true)
 (h1:keep [] (indexAddrv Tryd.prog 104 [] (lro 2 1 [lro L0.length 5 (List.flatMap lexC L0),lro L1.length 5 (List.flatMap lexC L1)]) (i6 (↑i0:Int)))=some (AV.eaddr (lro a 5 c::r13),[]))
 (h2:decide (w6 (n0 i0 + (↑a:Int))<0)=false)
 (e0:n0 (i0 + 1)=w6 (n0 i0 + (↑a:Int)))
 (e1:(↑(i0 + 1):Int)=w6 ((↑i0:Int) + 1)):∃ Sx,vexec Tryd.prog X call lf 0 noFg (loopN Tryd.f68 0) (f68_F0 L0 L1 n0 i0)=some (Ex.normal,Sx)∧forget f68_D0 Sx=(f68_F0 L0 L1 n0 (i0 + 1)) :=
  ⟨stOf 36 [21] [(0,lro 2 1 [lro L0.length 5 (List.flatMap lexC L0),lro L1.length 5 (List.flatMap lexC L1)]),(2,AV.list LK.nil 0 0 []),(3,i6 (w6 (n0 i0 + (↑a:Int)))),(5,lro a 5 c),(9,lro 2 1 [lro L0.length 5 (List.flatMap lexC L0),lro L1.length 5 (List.flatMap lexC L1)]),(10,i6 2),(11,i6 (w6 ((↑i0:Int) + 1))),(12,bo true),(13,AV.eaddr (lro a 5 c::r13)),(14,lro a 5 c),(15,i6 (n0 i0)),(16,lro a 5 c),(17,i6 (↑a:Int)),(18,i6 (w6 (n0 i0 + (↑a:Int)))),(19,i6 (w6 (n0 i0 + (↑a:Int)))),(20,bo false),(22,i6 (w6 ((↑i0:Int) + 1)))] [],around_sound (ans:=[(1,Ans.b true),(4,Ans.v (AV.eaddr (lro a 5 c::r13))),(15,Ans.b false)]) (by kernel_rfl) (ai h0 (ai h1 (ai h2 trivial))),by unfold f68_F0; rw [e0,e1]; show _=_; kernel_rfl⟩
def f68_S1 (L0 L1:List Lexm)(n0:Nat→Int)(i0:Nat):St :=
  stOf 36 [5,13,14,15,16,17,18,19,20,21,22] [(0,lro 2 1 [lro L0.length 5 (List.flatMap lexC L0),lro L1.length 5 (List.flatMap lexC L1)]),(2,AV.list LK.nil 0 0 []),(3,i6 (n0 i0)),(9,lro 2 1 [lro L0.length 5 (List.flatMap lexC L0),lro L1.length 5 (List.flatMap lexC L1)]),(10,i6 2),(11,i6 (↑i0:Int)),(12,bo false)] []
theorem f68_r0_f (L0 L1:List Lexm)(n0:Nat→Int)(X:Ext)(call:Caller)(lf i0:Nat)
 (h0:decide ((↑i0:Int)<2)=false):vexec Tryd.prog X call lf 0 noFg (loopN Tryd.f68 0) (f68_F0 L0 L1 n0 i0)=some (Ex.exit 0,(f68_S1 L0 L1 n0 i0)) :=
  around_sound (ans:=[(1,Ans.b false)]) (by kernel_rfl) (ai h0 trivial)
def f68_F1 (L0 L1:List Lexm)(n0:Nat→Int)(v24:AV)(i0:Nat)(S1:Nat→List Ob)(o6:Nat→AV)(i1:Nat):St :=
  stOf 36 [5,8,13,14,15,16,17,18,19,20,21,22,28,29,30,31,32,33,34] [(0,lro 2 1 [lro L0.length 5 (List.flatMap lexC L0),lro L1.length 5 (List.flatMap lexC L1)]),(2,AV.list LK.nil 0 0 []),(3,i6 (n0 i0)),(6,o6 i1),(9,lro 2 1 [lro L0.length 5 (List.flatMap lexC L0),lro L1.length 5 (List.flatMap lexC L1)]),(10,i6 2),(11,i6 (↑i0:Int)),(12,bo false),(23,i6 (n0 i0)),(24,v24),(25,lro 2 1 [lro L0.length 5 (List.flatMap lexC L0),lro L1.length 5 (List.flatMap lexC L1)]),(26,i6 2),(27,i6 (↑i1:Int))] (S1 i1)
def f68_S2 (L0 L1:List Lexm)(n0:Nat→Int)(v24:AV)(s24:List Ob)(i0:Nat):St :=
  stOf 36 [5,13,14,15,16,17,18,19,20,21,22] [(0,lro 2 1 [lro L0.length 5 (List.flatMap lexC L0),lro L1.length 5 (List.flatMap lexC L1)]),(2,AV.list LK.nil 0 0 []),(3,i6 (n0 i0)),(6,v24),(9,lro 2 1 [lro L0.length 5 (List.flatMap lexC L0),lro L1.length 5 (List.flatMap lexC L1)]),(10,i6 2),(11,i6 (↑i0:Int)),(12,bo false),(23,i6 (n0 i0)),(24,v24),(25,lro 2 1 [lro L0.length 5 (List.flatMap lexC L0),lro L1.length 5 (List.flatMap lexC L1)]),(26,i6 2),(27,i6 0)] s24
abbrev f68_D1:List Nat:=[34,33,32,31,8,30,29,28]
theorem f68_L1 (L0 L1:List Lexm)(n0:Nat→Int)(v24:AV)(s24:List Ob)(i0:Nat)(S1:Nat→List Ob)(o6:Nat→AV)(X:Ext)(call:Caller)(lf n:Nat)(x:Ex) (S' : St)
 (e0:o6 0=v24)
 (e1:S1 0=s24)
 (hn:n<lf)
 (hs:∀ j,j<n→∃ Sx,vexec Tryd.prog X call lf 0 noFg (loopN Tryd.f68 1) (f68_F1 L0 L1 n0 v24 i0 S1 o6 j)=some (Ex.normal,Sx)∧forget f68_D1 Sx=(f68_F1 L0 L1 n0 v24 i0 S1 o6 (j + 1)))
 (he:vexec Tryd.prog X call lf 0 noFg (loopN Tryd.f68 1) (f68_F1 L0 L1 n0 v24 i0 S1 o6 n)=some (x,S'))
 (hx:x ≠ Ex.normal):vexec Tryd.prog X call lf 0 noFg (Go.Code.loop (loopN Tryd.f68 1)) (f68_S2 L0 L1 n0 v24 s24 i0)=some (x,S') :=
  loop_runK (by kernel_rfl) (fun j=>(f68_F1 L0 L1 n0 v24 i0 S1 o6 j)) n hn (by show forget f68_D1 (f68_S2 L0 L1 n0 v24 s24 i0)=(f68_F1 L0 L1 n0 v24 i0 S1 o6 0); unfold f68_F1; rw [e0,e1]; show _=_; kernel_rfl) hs he hx
theorem f68_s1_t (L0 L1:List Lexm)(n0:Nat→Int)(v24:AV)(X:Ext)(call:Caller)(lf i0:Nat)(S1:Nat→List Ob)(o6:Nat→AV)(i1 a:Nat)(d r29:List AV)(v33:AV)(s33:List Ob)
 (h0:decide ((↑i1:Int)<2)=true)
 (h1:keep (S1 i1) (indexAddrv Tryd.prog 104 (S1 i1) (lro 2 1 [lro L0.length 5 (List.flatMap lexC L0),lro L1.length 5 (List.flatMap lexC L1)]) (i6 (↑i1:Int)))=some (AV.eaddr (lro a 5 d::r29),S1 i1))
 (h2:appendv Tryd.prog 22 (S1 i1) 0 (o6 i1) (lro a 5 d)=some (v33,s33))
 (e0:o6 (i1 + 1)=v33)
 (e1:(↑(i1 + 1):Int)=w6 ((↑i1:Int) + 1))
 (e2:S1 (i1 + 1)=s33):∃ Sx,vexec Tryd.prog X call lf 0 noFg (loopN Tryd.f68 1) (f68_F1 L0 L1 n0 v24 i0 S1 o6 i1)=some (Ex.normal,Sx)∧forget f68_D1 Sx=(f68_F1 L0 L1 n0 v24 i0 S1 o6 (i1 + 1)) :=
  ⟨stOf 36 [5,13,14,15,16,17,18,19,20,21,22] [(0,lro 2 1 [lro L0.length 5 (List.flatMap lexC L0),lro L1.length 5 (List.flatMap lexC L1)]),(2,AV.list LK.nil 0 0 []),(3,i6 (n0 i0)),(6,v33),(8,lro a 5 d),(9,lro 2 1 [lro L0.length 5 (List.flatMap lexC L0),lro L1.length 5 (List.flatMap lexC L1)]),(10,i6 2),(11,i6 (↑i0:Int)),(12,bo false),(23,i6 (n0 i0)),(24,v24),(25,lro 2 1 [lro L0.length 5 (List.flatMap lexC L0),lro L1.length 5 (List.flatMap lexC L1)]),(26,i6 2),(27,i6 (w6 ((↑i1:Int) + 1))),(28,bo true),(29,AV.eaddr (lro a 5 d::r29)),(30,lro a 5 d),(31,o6 i1),(32,lro a 5 d),(33,v33),(34,i6 (w6 ((↑i1:Int) + 1)))] s33,around_sound (ans:=[(1,Ans.b true),(4,Ans.v (AV.eaddr (lro a 5 d::r29))),(10,Ans.c v33 s33)]) (by kernel_rfl) (ai h0 (ai h1 (ai h2 trivial))),by unfold f68_F1; rw [e0,e1,e2]; show _=_; kernel_rfl⟩
def f68_S3 (L0 L1:List Lexm)(n0:Nat→Int)(v24:AV)(i0:Nat)(S1:Nat→List Ob)(o6:Nat→AV)(i1:Nat):St :=
  stOf 36 [5,8,13,14,15,16,17,18,19,20,21,22,29,30,31,32,33,34] [(0,lro 2 1 [lro L0.length 5 (List.flatMap lexC L0),lro L1.length 5 (List.flatMap lexC L1)]),(2,AV.list LK.nil 0 0 []),(3,i6 (n0 i0)),(6,o6 i1),(9,lro 2 1 [lro L0.length 5 (List.flatMap lexC L0),lro L1.length 5 (List.flatMap lexC L1)]),(10,i6 2),(11,i6 (↑i0:Int)),(12,bo false),(23,i6 (n0 i0)),(24,v24),(25,lro 2 1 [lro L0.length 5 (List.flatMap lexC L0),lro L1.length 5 (List.flatMap lexC L1)]),(26,i6 2),(27,i6 (↑i1:Int)),(28,bo false)] (S1 i1)
theorem f68_r1_f (L0 L1:List Lexm)(n0:Nat→Int)(v24:AV)(X:Ext)(call:Caller)(lf i0:Nat)(S1:Nat→List Ob)(o6:Nat→AV)(i1:Nat)
 (h0:decide ((↑i1:Int)<2)=false):vexec Tryd.prog X call lf 0 noFg (loopN Tryd.f68 1) (f68_F1 L0 L1 n0 v24 i0 S1 o6 i1)=some (Ex.exit 2,(f68_S3 L0 L1 n0 v24 i0 S1 o6 i1)) :=
  around_sound (ans:=[(1,Ans.b false)]) (by kernel_rfl) (ai h0 trivial)
theorem f68_plflf (L0 L1:List Lexm)(n0:Nat→Int)(v24:AV)(s24:List Ob)(X:Ext)(call:Caller)(lf i0:Nat)(S1:Nat→List Ob)(o6:Nat→AV)(i1:Nat)(rE:AV)(sE:List Ob)
 (h0:vexec Tryd.prog X call lf 0 noFg (Code.loop (loopN Tryd.f68 0)) (f68_S0 L0 L1)=some (Ex.exit 0,(f68_S1 L0 L1 n0 i0)))
 (h1:callv X call false 90 [AV.list LK.nil 0 0 [],i6 (n0 i0)] [] 0=some (v24,s24))
 (h2:vexec Tryd.prog X call lf 0 noFg (Code.loop (loopN Tryd.f68 1)) (f68_S2 L0 L1 n0 v24 s24 i0)=some (Ex.exit 2,(f68_S3 L0 L1 n0 v24 i0 S1 o6 i1)))
 (h3:vend1 [] 0 (S1 i1) [o6 i1]=some (rE,sE)):vbody Tryd.prog X call lf noFg Tryd.f68 (codeOf Tryd.f68) [lro 2 1 [lexsV L0,lexsV L1]] [] 0=some (rE,sE) :=
  along_sound (ans:=[(8,Ans.l (Ex.exit 0) (f68_S1 L0 L1 n0 i0)),(11,Ans.c v24 s24),(17,Ans.l (Ex.exit 2) (f68_S3 L0 L1 n0 v24 i0 S1 o6 i1)),(21,Ans.c rE sE)]) (by kernel_rfl) (ai h0 (ai h1 (ai h2 (ai h3 trivial))))
def f68_o0 (n0:Nat→Int)(i0 a:Nat):Nat :=
  (match decide ((↑i0:Int)<2) with
  | true=>(match decide (w6 (n0 i0 + (↑a:Int))<0) with
    | true=>999
    | false=>0)
  | false=>1)
theorem f68_B0 (L0 L1:List Lexm)(n0:Nat→Int)(X:Ext)(call:Caller)(lf i0 a:Nat)(b r13:List AV)
 (g0:decide ((↑i0:Int)<2)=true→keep [] (indexAddrv Tryd.prog 104 [] (lro 2 1 [lro L0.length 5 (List.flatMap lexC L0),lro L1.length 5 (List.flatMap lexC L1)]) (i6 (↑i0:Int)))=some (AV.eaddr (lro a 5 b::r13),[]))
 (e0:decide ((↑i0:Int)<2)=true→n0 (i0 + 1)=w6 (n0 i0 + (↑a:Int)))
 (e1:decide ((↑i0:Int)<2)=true→(↑(i0 + 1):Int)=w6 ((↑i0:Int) + 1)) :
    (f68_o0 n0 i0 a=0→∃ Sx,vexec Tryd.prog X call lf 0 noFg (loopN Tryd.f68 0) (f68_F0 L0 L1 n0 i0)=some (Ex.normal,Sx)∧forget f68_D0 Sx=(f68_F0 L0 L1 n0 (i0 + 1)))∧(f68_o0 n0 i0 a=1→vexec Tryd.prog X call lf 0 noFg (loopN Tryd.f68 0) (f68_F0 L0 L1 n0 i0)=some (Ex.exit 0,(f68_S1 L0 L1 n0 i0))):=by
  unfold f68_o0
  cases c0:decide ((↑i0:Int)<2) with
  | true =>
    cases c1:decide (w6 (n0 i0 + (↑a:Int))<0) with
    | true =>
      exact ⟨fun h=>absurd (show (999:Nat)=0 from h) (by decide),fun h=>absurd (show (999:Nat)=1 from h) (by decide)⟩
    | false =>
      exact ⟨fun _=>f68_s0_tf L0 L1 n0 X call lf i0 a b r13 c0 (g0 c0) c1 (e0 c0) (e1 c0),fun h=>absurd (show (0:Nat)=1 from h) (by decide)⟩
  | false =>
    exact ⟨fun h=>absurd (show (1:Nat)=0 from h) (by decide),fun _=>f68_r0_f L0 L1 n0 X call lf i0 c0⟩
def f68_o1 (i1:Nat):Nat :=
  (match decide ((↑i1:Int)<2) with
  | true=>0
  | false=>1)
theorem f68_B1 (L0 L1:List Lexm)(n0:Nat→Int)(v24:AV)(X:Ext)(call:Caller)(lf i0:Nat)(S1:Nat→List Ob)(o6:Nat→AV)(i1 a:Nat)(b r29:List AV)(v33:AV)(s33:List Ob)
 (g0:decide ((↑i1:Int)<2)=true→keep (S1 i1) (indexAddrv Tryd.prog 104 (S1 i1) (lro 2 1 [lro L0.length 5 (List.flatMap lexC L0),lro L1.length 5 (List.flatMap lexC L1)]) (i6 (↑i1:Int)))=some (AV.eaddr (lro a 5 b::r29),S1 i1))
 (g1:decide ((↑i1:Int)<2)=true→appendv Tryd.prog 22 (S1 i1) 0 (o6 i1) (lro a 5 b)=some (v33,s33))
 (e0:decide ((↑i1:Int)<2)=true→o6 (i1 + 1)=v33)
 (e1:decide ((↑i1:Int)<2)=true→(↑(i1 + 1):Int)=w6 ((↑i1:Int) + 1))
 (e2:decide ((↑i1:Int)<2)=true→S1 (i1 + 1)=s33) :
    (f68_o1 i1=0→∃ Sx,vexec Tryd.prog X call lf 0 noFg (loopN Tryd.f68 1) (f68_F1 L0 L1 n0 v24 i0 S1 o6 i1)=some (Ex.normal,Sx)∧forget f68_D1 Sx=(f68_F1 L0 L1 n0 v24 i0 S1 o6 (i1 + 1)))∧(f68_o1 i1=1→vexec Tryd.prog X call lf 0 noFg (loopN Tryd.f68 1) (f68_F1 L0 L1 n0 v24 i0 S1 o6 i1)=some (Ex.exit 2,(f68_S3 L0 L1 n0 v24 i0 S1 o6 i1))):=by
  unfold f68_o1
  cases c0:decide ((↑i1:Int)<2) with
  | true =>
    exact ⟨fun _=>f68_s1_t L0 L1 n0 v24 X call lf i0 S1 o6 i1 a b r29 v33 s33 c0 (g0 c0) (g1 c0) (e0 c0) (e1 c0) (e2 c0),fun h=>absurd (show (0:Nat)=1 from h) (by decide)⟩
  | false =>
    exact ⟨fun h=>absurd (show (1:Nat)=0 from h) (by decide),fun _=>f68_r1_f L0 L1 n0 v24 X call lf i0 S1 o6 i1 c0⟩
def f40e_F0 (L0:List Lexm)(S0:Nat→List Ob)(o5:Nat→AV)(i0:Nat):St :=
  stOf 24 [7,11,12,13,14,15,16,17,18,19,20,21,22] [(0,lro L0.length 5 (List.flatMap lexC L0)),(1,AV.clo 69 []),(4,AV.list LK.nil 0 0 []),(5,o5 i0),(8,lro L0.length 5 (List.flatMap lexC L0)),(9,i6 (↑L0.length:Int)),(10,i6 (↑i0:Int))] (S0 i0)
def f40e_S0 (L0:List Lexm):St :=
  stOf 24 [] [(0,lro L0.length 5 (List.flatMap lexC L0)),(1,AV.clo 69 []),(4,AV.list LK.nil 0 0 []),(5,AV.list LK.nil 0 0 []),(8,lro L0.length 5 (List.flatMap lexC L0)),(9,i6 (↑L0.length:Int)),(10,i6 0)] []
abbrev f40e_D0:List Nat:=[22,21,20,19,18,17,16,15,14,7,13,12,11]
theorem f40e_L0 (L0:List Lexm)(S0:Nat→List Ob)(o5:Nat→AV)(X:Ext)(call:Caller)(lf n:Nat)(x:Ex) (S' : St)
 (e0:o5 0=AV.list LK.nil 0 0 [])
 (e1:S0 0=[])
 (hn:n<lf)
 (hs:∀ j,j<n→∃ Sx,vexec Tryd.prog X call lf 0 fg40 (loopN Tryd.f40 0) (f40e_F0 L0 S0 o5 j)=some (Ex.normal,Sx)∧forget f40e_D0 Sx=(f40e_F0 L0 S0 o5 (j + 1)))
 (he:vexec Tryd.prog X call lf 0 fg40 (loopN Tryd.f40 0) (f40e_F0 L0 S0 o5 n)=some (x,S'))
 (hx:x ≠ Ex.normal):vexec Tryd.prog X call lf 0 fg40 (Go.Code.loop (loopN Tryd.f40 0)) (f40e_S0 L0)=some (x,S') :=
  loop_runK (by kernel_rfl) (fun j=>(f40e_F0 L0 S0 o5 j)) n hn (by show forget f40e_D0 (f40e_S0 L0)=(f40e_F0 L0 S0 o5 0); unfold f40e_F0; rw [e0,e1]; show _=_; kernel_rfl) hs he hx
theorem f40e_s0_tt (L0:List Lexm)(X:Ext)(call:Caller)(lf:Nat)(S0:Nat→List Ob)(o5:Nat→AV)(i0:Nat)(a d e g:ByteArray)(h:Nat)(j r12:List AV)(k p q r:ByteArray)(t:Nat)(u:List AV)(m20:Nat)(c20:List AV)(k20:LK)(v21:AV)(s21:List Ob)
 (h0:decide ((↑i0:Int)<(↑L0.length:Int))=true)
 (h1:keep (S0 i0) (indexAddrv Tryd.prog 22 (S0 i0) (lro L0.length 5 (List.flatMap lexC L0)) (i6 (↑i0:Int)))=some (AV.eaddr (st a::st d::st e::st g::lro h 2 j::r12),S0 i0))
 (h2:callv X call false 69 [AV.agg [st a,st d,st e,st g,lro h 2 j]] (S0 i0) 0=some (bo true,S0 i0))
 (h3:callv X call false 61 [AV.agg [st a,st d,st e,st g,lro h 2 j]] (S0 i0) 0=some (AV.agg [st k,st p,st q,st r,lro t 2 u],S0 i0))
 (h4:bsl Tryd.prog 22 1 (S0 i0) false 0 [(0,AV.agg [st k,st p,st q,st r,lro t 2 u])]=some (AV.list k20 m20 5 c20,S0 i0))
 (h5:appendv Tryd.prog 22 (S0 i0) 0 (o5 i0) (AV.list k20 m20 5 c20)=some (v21,s21))
 (e0:o5 (i0 + 1)=v21)
 (e1:(↑(i0 + 1):Int)=w6 ((↑i0:Int) + 1))
 (e2:S0 (i0 + 1)=s21):∃ Sx,vexec Tryd.prog X call lf 0 fg40 (loopN Tryd.f40 0) (f40e_F0 L0 S0 o5 i0)=some (Ex.normal,Sx)∧forget f40e_D0 Sx=(f40e_F0 L0 S0 o5 (i0 + 1)) :=
  ⟨stOf 24 [] [(0,lro L0.length 5 (List.flatMap lexC L0)),(1,AV.clo 69 []),(4,AV.list LK.nil 0 0 []),(5,v21),(7,AV.eaddr [st a,st d,st e,st g,lro h 2 j]),(8,lro L0.length 5 (List.flatMap lexC L0)),(9,i6 (↑L0.length:Int)),(10,i6 (w6 ((↑i0:Int) + 1))),(11,bo true),(12,AV.eaddr (st a::st d::st e::st g::lro h 2 j::r12)),(13,AV.agg [st a,st d,st e,st g,lro h 2 j]),(14,AV.clo 69 []),(15,AV.agg [st a,st d,st e,st g,lro h 2 j]),(16,bo true),(17,o5 i0),(18,AV.agg [st a,st d,st e,st g,lro h 2 j]),(19,AV.agg [st k,st p,st q,st r,lro t 2 u]),(20,AV.list k20 m20 5 c20),(21,v21),(22,i6 (w6 ((↑i0:Int) + 1)))] s21,around_sound (ans:=[(1,Ans.b true),(4,Ans.v (AV.eaddr (st a::st d::st e::st g::lro h 2 j::r12))),(9,Ans.v (bo true)),(14,Ans.v (AV.agg [st k,st p,st q,st r,lro t 2 u])),(15,Ans.v (AV.list k20 m20 5 c20)),(16,Ans.c v21 s21)]) (by kernel_rfl) (ai h0 (ai h1 (ai h2 (ai h3 (ai h4 (ai h5 trivial)))))),by unfold f40e_F0; rw [e0,e1,e2]; show _=_; kernel_rfl⟩
theorem f40e_s0_tf (L0:List Lexm)(X:Ext)(call:Caller)(lf:Nat)(S0:Nat→List Ob)(o5:Nat→AV)(i0:Nat)(a c d e:ByteArray)(g:Nat)(h r12:List AV)
 (h0:decide ((↑i0:Int)<(↑L0.length:Int))=true)
 (h1:keep (S0 i0) (indexAddrv Tryd.prog 22 (S0 i0) (lro L0.length 5 (List.flatMap lexC L0)) (i6 (↑i0:Int)))=some (AV.eaddr (st a::st c::st d::st e::lro g 2 h::r12),S0 i0))
 (h2:callv X call false 69 [AV.agg [st a,st c,st d,st e,lro g 2 h]] (S0 i0) 0=some (bo false,S0 i0))
 (e0:o5 (i0 + 1)=o5 i0)
 (e1:(↑(i0 + 1):Int)=w6 ((↑i0:Int) + 1))
 (e2:S0 (i0 + 1)=S0 i0):∃ Sx,vexec Tryd.prog X call lf 0 fg40 (loopN Tryd.f40 0) (f40e_F0 L0 S0 o5 i0)=some (Ex.normal,Sx)∧forget f40e_D0 Sx=(f40e_F0 L0 S0 o5 (i0 + 1)) :=
  ⟨stOf 24 [17,18,19,20,21] [(0,lro L0.length 5 (List.flatMap lexC L0)),(1,AV.clo 69 []),(4,AV.list LK.nil 0 0 []),(5,o5 i0),(7,AV.eaddr [st a,st c,st d,st e,lro g 2 h]),(8,lro L0.length 5 (List.flatMap lexC L0)),(9,i6 (↑L0.length:Int)),(10,i6 (w6 ((↑i0:Int) + 1))),(11,bo true),(12,AV.eaddr (st a::st c::st d::st e::lro g 2 h::r12)),(13,AV.agg [st a,st c,st d,st e,lro g 2 h]),(14,AV.clo 69 []),(15,AV.agg [st a,st c,st d,st e,lro g 2 h]),(16,bo false),(22,i6 (w6 ((↑i0:Int) + 1)))] (S0 i0),around_sound (ans:=[(1,Ans.b true),(4,Ans.v (AV.eaddr (st a::st c::st d::st e::lro g 2 h::r12))),(9,Ans.v (bo false))]) (by kernel_rfl) (ai h0 (ai h1 (ai h2 trivial))),by unfold f40e_F0; rw [e0,e1,e2]; show _=_; kernel_rfl⟩
def f40e_S1 (L0:List Lexm)(S0:Nat→List Ob)(o5:Nat→AV)(i0:Nat):St :=
  stOf 24 [7,12,13,14,15,16,17,18,19,20,21,22] [(0,lro L0.length 5 (List.flatMap lexC L0)),(1,AV.clo 69 []),(4,AV.list LK.nil 0 0 []),(5,o5 i0),(8,lro L0.length 5 (List.flatMap lexC L0)),(9,i6 (↑L0.length:Int)),(10,i6 (↑i0:Int)),(11,bo false)] (S0 i0)
theorem f40e_r0_f (L0:List Lexm)(X:Ext)(call:Caller)(lf:Nat)(S0:Nat→List Ob)(o5:Nat→AV)(i0:Nat)
 (h0:decide ((↑i0:Int)<(↑L0.length:Int))=false):vexec Tryd.prog X call lf 0 fg40 (loopN Tryd.f40 0) (f40e_F0 L0 S0 o5 i0)=some (Ex.exit 0,(f40e_S1 L0 S0 o5 i0)) :=
  around_sound (ans:=[(1,Ans.b false)]) (by kernel_rfl) (ai h0 trivial)
theorem f40e_plf (L0:List Lexm)(X:Ext)(call:Caller)(lf:Nat)(S0:Nat→List Ob)(o5:Nat→AV)(i0:Nat)(rE:AV)(sE:List Ob)
 (h0:vexec Tryd.prog X call lf 0 fg40 (Code.loop (loopN Tryd.f40 0)) (f40e_S0 L0)=some (Ex.exit 0,(f40e_S1 L0 S0 o5 i0)))
 (h1:vend1 [] 0 (S0 i0) [o5 i0]=some (rE,sE)):vbody Tryd.prog X call lf fg40 Tryd.f40 (codeOf Tryd.f40) [lexsV L0,AV.clo 69 []] [] 0=some (rE,sE) :=
  along_sound (ans:=[(8,Ans.l (Ex.exit 0) (f40e_S1 L0 S0 o5 i0)),(12,Ans.c rE sE)]) (by kernel_rfl) (ai h0 (ai h1 trivial))
def f40e_o0 (L0:List Lexm)(i0:Nat)(b0:Bool):Nat :=
  (match decide ((↑i0:Int)<(↑L0.length:Int)) with
  | true=>(match b0 with
    | true=>0
    | false=>0)
  | false=>1)
theorem f40e_B0 (L0:List Lexm)(X:Ext)(call:Caller)(lf:Nat)(S0:Nat→List Ob)(o5:Nat→AV)(i0:Nat)(a b c d:ByteArray)(e:Nat)(g r12:List AV)(j k p q:ByteArray)(r:Nat)(t:List AV)(m20:Nat)(c20:List AV)(k20:LK)(v21:AV)(s21:List Ob)(b0:Bool)
 (g0:decide ((↑i0:Int)<(↑L0.length:Int))=true→keep (S0 i0) (indexAddrv Tryd.prog 22 (S0 i0) (lro L0.length 5 (List.flatMap lexC L0)) (i6 (↑i0:Int)))=some (AV.eaddr (st a::st b::st c::st d::lro e 2 g::r12),S0 i0))
 (g1:decide ((↑i0:Int)<(↑L0.length:Int))=true→callv X call false 69 [AV.agg [st a,st b,st c,st d,lro e 2 g]] (S0 i0) 0=some (bo b0,S0 i0))
 (g2:decide ((↑i0:Int)<(↑L0.length:Int))=true→b0=true→callv X call false 61 [AV.agg [st a,st b,st c,st d,lro e 2 g]] (S0 i0) 0=some (AV.agg [st j,st k,st p,st q,lro r 2 t],S0 i0))
 (g3:decide ((↑i0:Int)<(↑L0.length:Int))=true→b0=true→bsl Tryd.prog 22 1 (S0 i0) false 0 [(0,AV.agg [st j,st k,st p,st q,lro r 2 t])]=some (AV.list k20 m20 5 c20,S0 i0))
 (g4:decide ((↑i0:Int)<(↑L0.length:Int))=true→b0=true→appendv Tryd.prog 22 (S0 i0) 0 (o5 i0) (AV.list k20 m20 5 c20)=some (v21,s21))
 (e0:decide ((↑i0:Int)<(↑L0.length:Int))=true→b0=true→o5 (i0 + 1)=v21)
 (e1:decide ((↑i0:Int)<(↑L0.length:Int))=true→(↑(i0 + 1):Int)=w6 ((↑i0:Int) + 1))
 (e2:decide ((↑i0:Int)<(↑L0.length:Int))=true→b0=true→S0 (i0 + 1)=s21)
 (e3:decide ((↑i0:Int)<(↑L0.length:Int))=true→b0=false→o5 (i0 + 1)=o5 i0)
 (e4:decide ((↑i0:Int)<(↑L0.length:Int))=true→b0=false→S0 (i0 + 1)=S0 i0) :
    (f40e_o0 L0 i0 b0=0→∃ Sx,vexec Tryd.prog X call lf 0 fg40 (loopN Tryd.f40 0) (f40e_F0 L0 S0 o5 i0)=some (Ex.normal,Sx)∧forget f40e_D0 Sx=(f40e_F0 L0 S0 o5 (i0 + 1)))∧(f40e_o0 L0 i0 b0=1→vexec Tryd.prog X call lf 0 fg40 (loopN Tryd.f40 0) (f40e_F0 L0 S0 o5 i0)=some (Ex.exit 0,(f40e_S1 L0 S0 o5 i0))):=by
  unfold f40e_o0
  cases c0:decide ((↑i0:Int)<(↑L0.length:Int)) with
  | true =>
    cases c1:b0 with
    | true =>
      exact ⟨fun _=>f40e_s0_tt L0 X call lf S0 o5 i0 a b c d e g r12 j k p q r t m20 c20 k20 v21 s21 c0 (g0 c0) (by have:=(g1 c0); rw [c1] at this; exact this) (g2 c0 c1) (g3 c0 c1) (g4 c0 c1) (e0 c0 c1) (e1 c0) (e2 c0 c1),fun h=>absurd (show (0:Nat)=1 from h) (by decide)⟩
    | false =>
      exact ⟨fun _=>f40e_s0_tf L0 X call lf S0 o5 i0 a b c d e g r12 c0 (g0 c0) (by have:=(g1 c0); rw [c1] at this; exact this) (e3 c0 c1) (e1 c0) (e4 c0 c1),fun h=>absurd (show (0:Nat)=1 from h) (by decide)⟩
  | false =>
    exact ⟨fun h=>absurd (show (1:Nat)=0 from h) (by decide),fun _=>f40e_r0_f L0 X call lf S0 o5 i0 c0⟩
theorem f40e_X0 (L0:List Lexm)(X:Ext)(call:Caller)(lf:Nat)(S0:Nat→List Ob)(o5:Nat→AV)(i0:Nat)(a b c d:ByteArray)(e:Nat)(g r12:List AV)(j k p q:ByteArray)(r:Nat)(t:List AV)(m20:Nat)(c20:List AV)(k20:LK)(v21:AV)(s21:List Ob)(b0:Bool)
 (g0:decide ((↑i0:Int)<(↑L0.length:Int))=true→keep (S0 i0) (indexAddrv Tryd.prog 22 (S0 i0) (lro L0.length 5 (List.flatMap lexC L0)) (i6 (↑i0:Int)))=some (AV.eaddr (st a::st b::st c::st d::lro e 2 g::r12),S0 i0))
 (g1:decide ((↑i0:Int)<(↑L0.length:Int))=true→callv X call false 69 [AV.agg [st a,st b,st c,st d,lro e 2 g]] (S0 i0) 0=some (bo b0,S0 i0))
 (g2:decide ((↑i0:Int)<(↑L0.length:Int))=true→b0=true→callv X call false 61 [AV.agg [st a,st b,st c,st d,lro e 2 g]] (S0 i0) 0=some (AV.agg [st j,st k,st p,st q,lro r 2 t],S0 i0))
 (g3:decide ((↑i0:Int)<(↑L0.length:Int))=true→b0=true→bsl Tryd.prog 22 1 (S0 i0) false 0 [(0,AV.agg [st j,st k,st p,st q,lro r 2 t])]=some (AV.list k20 m20 5 c20,S0 i0))
 (g4:decide ((↑i0:Int)<(↑L0.length:Int))=true→b0=true→appendv Tryd.prog 22 (S0 i0) 0 (o5 i0) (AV.list k20 m20 5 c20)=some (v21,s21)) :
    (f40e_o0 L0 i0 b0=1→vexec Tryd.prog X call lf 0 fg40 (loopN Tryd.f40 0) (f40e_F0 L0 S0 o5 i0)=some (Ex.exit 0,(f40e_S1 L0 S0 o5 i0))):=by
  unfold f40e_o0
  cases c0:decide ((↑i0:Int)<(↑L0.length:Int)) with
  | true =>
    cases c1:b0 with
    | true =>
      exact fun h=>absurd (show (0:Nat)=1 from h) (by decide)
    | false =>
      exact fun h=>absurd (show (0:Nat)=1 from h) (by decide)
  | false =>
    exact fun _=>f40e_r0_f L0 X call lf S0 o5 i0 c0
theorem f40e_M (L0:List Lexm)(S0:Nat→List Ob)(o5:Nat→AV)(X:Ext)(call:Caller)(lf n:Nat)(a b c d:Nat→ByteArray)(e:Nat→Nat)(g r12:Nat→List AV)(h k p q:Nat→ByteArray)(r:Nat→Nat)(t:Nat→List AV)(m20:Nat→Nat)(c20:Nat→List AV)(k20:Nat→LK)(v21:Nat→AV)(s21:Nat→List Ob)(b0:Nat→Bool)
 (z0:o5 0=AV.list LK.nil 0 0 [])
 (z1:S0 0=[])
 (hn:n<lf)
 (g0:∀ i0,i0 ≤ n→decide ((↑i0:Int)<(↑L0.length:Int))=true→keep (S0 i0) (indexAddrv Tryd.prog 22 (S0 i0) (lro L0.length 5 (List.flatMap lexC L0)) (i6 (↑i0:Int)))=some (AV.eaddr (st (a i0)::st (b i0)::st (c i0)::st (d i0)::lro (e i0) 2 (g i0)::(r12 i0)),S0 i0))
 (g1:∀ i0,i0 ≤ n→decide ((↑i0:Int)<(↑L0.length:Int))=true→callv X call false 69 [AV.agg [st (a i0),st (b i0),st (c i0),st (d i0),lro (e i0) 2 (g i0)]] (S0 i0) 0=some (bo (b0 i0),S0 i0))
 (g2:∀ i0,i0 ≤ n→decide ((↑i0:Int)<(↑L0.length:Int))=true→(b0 i0)=true→callv X call false 61 [AV.agg [st (a i0),st (b i0),st (c i0),st (d i0),lro (e i0) 2 (g i0)]] (S0 i0) 0=some (AV.agg [st (h i0),st (k i0),st (p i0),st (q i0),lro (r i0) 2 (t i0)],S0 i0))
 (g3:∀ i0,i0 ≤ n→decide ((↑i0:Int)<(↑L0.length:Int))=true→(b0 i0)=true→bsl Tryd.prog 22 1 (S0 i0) false 0 [(0,AV.agg [st (h i0),st (k i0),st (p i0),st (q i0),lro (r i0) 2 (t i0)])]=some (AV.list (k20 i0) (m20 i0) 5 (c20 i0),S0 i0))
 (g4:∀ i0,i0 ≤ n→decide ((↑i0:Int)<(↑L0.length:Int))=true→(b0 i0)=true→appendv Tryd.prog 22 (S0 i0) 0 (o5 i0) (AV.list (k20 i0) (m20 i0) 5 (c20 i0))=some ((v21 i0),(s21 i0)))
 (e0:∀ i0,i0<n→decide ((↑i0:Int)<(↑L0.length:Int))=true→(b0 i0)=true→o5 (i0 + 1)=(v21 i0))
 (e1:∀ i0,i0<n→decide ((↑i0:Int)<(↑L0.length:Int))=true→(↑(i0 + 1):Int)=w6 ((↑i0:Int) + 1))
 (e2:∀ i0,i0<n→decide ((↑i0:Int)<(↑L0.length:Int))=true→(b0 i0)=true→S0 (i0 + 1)=(s21 i0))
 (e3:∀ i0,i0<n→decide ((↑i0:Int)<(↑L0.length:Int))=true→(b0 i0)=false→o5 (i0 + 1)=o5 i0)
 (e4:∀ i0,i0<n→decide ((↑i0:Int)<(↑L0.length:Int))=true→(b0 i0)=false→S0 (i0 + 1)=S0 i0)
 (hz:∀ j,j<n→f40e_o0 L0 j (b0 j)=0) :
    (f40e_o0 L0 n (b0 n)=1→∀ (rE:AV),∀ (sE:List Ob),vend1 [] 0 (S0 n) [o5 n]=some (rE,sE)→vbody Tryd.prog X call lf fg40 Tryd.f40 (codeOf Tryd.f40) [lexsV L0,AV.clo 69 []] [] 0=some (rE,sE)):=by
  have key:∀ j,j<n→_:=fun j hj=>(f40e_B0 L0 X call lf S0 o5 j (a j) (b j) (c j) (d j) (e j) (g j) (r12 j) (h j) (k j) (p j) (q j) (r j) (t j) (m20 j) (c20 j) (k20 j) (v21 j) (s21 j) (b0 j) (g0 j (Nat.le_of_lt hj)) (g1 j (Nat.le_of_lt hj)) (g2 j (Nat.le_of_lt hj)) (g3 j (Nat.le_of_lt hj)) (g4 j (Nat.le_of_lt hj)) (e0 j hj) (e1 j hj) (e2 j hj) (e3 j hj) (e4 j hj)).1 (hz j hj)
  have kn:=f40e_X0 L0 X call lf S0 o5 n (a n) (b n) (c n) (d n) (e n) (g n) (r12 n) (h n) (k n) (p n) (q n) (r n) (t n) (m20 n) (c20 n) (k20 n) (v21 n) (s21 n) (b0 n) (g0 n (Nat.le_refl n)) (g1 n (Nat.le_refl n)) (g2 n (Nat.le_refl n)) (g3 n (Nat.le_refl n)) (g4 n (Nat.le_refl n))
  exact fun hk rE sE q0=>f40e_plf L0 X call lf S0 o5 n rE sE (f40e_L0 L0 S0 o5 X call lf n _ _ z0 z1 hn key (kn hk) (by simp)) q0
end Go.Proofs.Lex
end
/- Lexicon: slices.Concat of two lists of lexemes. -/
section
open Go Go.Vm Go.Proofs
namespace Go.Proofs.Lex
/-- The context in which Grow's row is one's own. -/
def XG (X:Ext):Ext := { X with adopt:=fun f=>f == 90 }
section
variable [Fixed] {X:Ext}
theorem XG_ok (hX:ExtOk Tryd.prog X):ExtOk Tryd.prog (XG X):=⟨hX.mixed,hX.dom,hX.pure,hX.st⟩
def grow90:List AV→Option AV:=fun vs=>match vs with
  | [.list .nil 0 0 [],.int .i64 n]=>if n=0 then some nil0 else if 0 < n∧n * 89 ≤ 140737488355328 then some (.list .fresh 0 5 []) else none
  | _=>none
theorem call90 (hX:ExtOk Tryd.prog X) (hL:XL X) {n:Nat} (hn:0 < n) (hb:n * 89 ≤ 140737488355328):CallAt Tryd.prog 90 [nil0,i6 n] [] 0 (.list .fresh 0 5 []) []:=by
  have hC:CallOk Tryd.prog (callerOf fun _ _=>none):=callerOf_ok SpecOk.none'
  have hw:w6 ((n:Int) - 0)=(n:Int):=by unfold w6; rw [Int.sub_zero,IntKind.wrap_i64]; omega
  obtain ⟨z,hz,hzl⟩:=(rowL).zero
  have h := f90_pt n (replv n z.cells) X (callerOf fun _ _ => none) 0 (by rw [hw]; simpa using hn) (by
    rw [hw]
    unfold appendZv
    rw [Tryd.underlying22,Tryd.underlying3]
    simp only [rowL.bytes,hz,rowL.cells]
    rw [if_pos ⟨by omega,by simpa using hb⟩,if_pos hzl,if_neg (by omega)]
    simp only [Int.toNat_natCast,List.nil_append,List.length_nil]
    rfl) (by
    unfold slc cutOwn
    simp only [Bool.false_eq_true,if_false,Tryd.underlying22,List.getElem?_cons_zero]
    rw [if_pos ⟨trivial,trivial,Nat.zero_le _,info33⟩]
    rfl)
  exact (body_at hX hC (hL.dom 90 rfl rfl) Tryd.func90 (by kernel_rfl) h).clean rfl
theorem call90z (hX:ExtOk Tryd.prog X) (hL:XL X):CallAt Tryd.prog 90 [nil0,i6 0] [] 0 nil0 []:=by
  have hC:CallOk Tryd.prog (callerOf fun _ _=>none):=callerOf_ok SpecOk.none'
  exact (body_at hX hC (hL.dom 90 rfl rfl) Tryd.func90 (by kernel_rfl) (f90_pf 0 X (callerOf fun _ _=>none) 0 (by decide))).clean rfl
def TG:Go.Vm.Spec:=Go.Vm.Spec.on (fun _ _=>none) 90 grow90
theorem TG_ok (hX:ExtOk Tryd.prog X) (hL:XL X):SpecOk Tryd.prog TG:=by
  refine SpecOk.on SpecOk.none' fun vs r h => ?_
  unfold grow90 at h
  split at h
  · rename_i n
    split at h
    · rename_i h0
      subst h0
      simp only [Option.some.injEq] at h
      subst h
      exact call90z hX hL
    · split at h
      · rename_i h0
        simp only [Option.some.injEq] at h
        subst h
        obtain ⟨k,e⟩:=Int.eq_ofNat_of_zero_le (Int.le_of_lt h0.1)
        subst e
        exact call90 hX hL (by omega) (by omega)
      · cases h
  · cases h
/-- What is joined after some of the two lists. -/
def joinC (L M:List Lexm):Nat→List Lexm
  | 0=>[]
  | 1=>L
  | _=>L ++ M
def pick2 (L M:List Lexm):Nat→List Lexm
  | 0=>L
  | _=>M
theorem joinC_step (L M:List Lexm) {i:Nat} (h:i < 2):joinC L M (i + 1)=joinC L M i ++ pick2 L M i:=by
  rcases i with _ | _ | i
  · rfl
  · rfl
  · omega
def aLss:Arg (List (List Lexm)):=Arg.cell cL.list.list rfl
theorem at_two {L M:List Lexm} {σ:List Ob} {i:Nat} (h:i < 2):∃ r,keep σ (indexAddrv Tryd.prog 104 σ (lro 2 1 [lexsV L,lexsV M]) (i6 (i:Int)))=some (.eaddr (lexsV (pick2 L M i)::r),σ):=by
  rcases i with _ | _ | i
  · exact ⟨[lexsV M],by show _=_; kernel_rfl⟩
  · exact ⟨[],by show _=_; kernel_rfl⟩
  · omega
theorem own_step {l m:List Lexm} (hb:(l.length + m.length) * 89 ≤ 140737488355328) :
    appendv Tryd.prog 22 [.arr l.length 5 (l.flatMap lexC)] 0 (.own 0 l.length) (lexsV m)=some (.own 0 (l ++ m).length,[.arr (l ++ m).length 5 ((l ++ m).flatMap lexC)]):=by
  obtain ⟨z,hz,hzl⟩:=(rowL).zero
  have ho:[Ob.arr l.length 5 (l.flatMap lexC)][0]? = some (.arr l.length (Tryd.prog.cellsOf 33) (l.flatMap lexC)):=by rw [rowL.cells]; rfl
  have hx:appended [Ob.arr l.length 5 (l.flatMap lexC)] (Tryd.prog.cellsOf 33) (lexsV m)=some (m.length,m.flatMap lexC):=by rw [rowL.cells]; exact appended_row (A:=cL) m
  by_cases hm:m.length=0
  · have hm' : m = [] := List.eq_nil_of_length_eq_zero hm
    subst hm'
    rw [grow_none rowL.und hz (by rw [hzl,rowL.cells]) ho (Nat.zero_le _) hx rfl (by rw [rowL.bytes]; simpa using hb)]
    simp
  · rw [grow_own rowL.und hz (by rw [hzl, rowL.cells]) ho (Nat.zero_le _) hx (Cod.flat_owns (A := cL) m) hm (by rw [rowL.bytes]; exact hb)]
    rw [List.length_append,rowL.cells,List.flatMap_append]
    rfl
theorem call68 (hX:ExtOk Tryd.prog X) (hL:XL X) {L M:List Lexm} (hb:(L.length + M.length) * 89 ≤ big):CallAt Tryd.prog 68 [aLss.enc [L,M]] [] 0 (aLs.enc (L ++ M)) []:=by
  have hb' : (L.length + M.length) * 89 ≤ 140737488355328:=hb
  have hC:=callerOf_ok (TG_ok hX hL)
  have two:∀ {i:Nat},decide ((i:Int) < 2)=true→i < 2:=fun h=>by have:=of_decide_eq_true h; omega
  have hJ : ∀ i, (joinC L M i).length ≤ L.length + M.length := fun i => by
    rcases i with _ | _ | i
    · exact Nat.zero_le _
    · exact Nat.le_add_right _ _
    · exact Nat.le_of_eq List.length_append
  have l0 : vexec Tryd.prog (XG X) (callerOf TG) 3 0 noFg (.loop (loopN Tryd.f68 0)) (f68_S0 L M) = some (.exit 0, f68_S1 L M (fun i => ((joinC L M i).length : Int)) 2) := by
    refine f68_L0 L M (fun i=>((joinC L M i).length:Int)) (XG X) (callerOf TG) 3 2 _ _ rfl (by omega) (fun j hj => ?_) ?_ (by simp)
    · obtain ⟨r, hr⟩ := at_two (L := L) (M := M) (σ := []) hj
      refine (f68_B0 L M (fun i=>((joinC L M i).length:Int)) (XG X) (callerOf TG) 3 j (pick2 L M j).length ((pick2 L M j).flatMap lexC) r (fun _=>hr) (fun _ => ?_) (fun _=>up hj (by decide))).1 ?_
      · show (((joinC L M (j + 1)).length : Nat) : Int) = w6 (((joinC L M j).length : Int) + ((pick2 L M j).length : Int))
        have h1:=hJ (j + 1)
        rw [joinC_step L M hj,List.length_append] at h1 ⊢
        unfold w6
        rw [IntKind.wrap_i64]
        omega
      · unfold f68_o0
        have h1:=hJ (j + 1)
        rw [joinC_step L M hj,List.length_append] at h1
        rw [decide_eq_true (by omega)]
        have : decide (w6 (((joinC L M j).length : Int) + ((pick2 L M j).length : Int)) < 0) = false := by
          unfold w6
          rw [IntKind.wrap_i64]
          exact decide_eq_false (by omega)
        rw [this]
    · exact f68_r0_f L M (fun i=>((joinC L M i).length:Int)) (XG X) (callerOf TG) 3 2 (by decide)
  have res : ∃ r σ', vbody Tryd.prog (XG X) (callerOf TG) 3 noFg Tryd.f68 (codeOf Tryd.f68) [lro 2 1 [lexsV L, lexsV M]] [] 0 = some (r, σ') ∧ aLs.dec r = some (L ++ M) := by
    by_cases h0:L.length + M.length=0
    · have e1 : L = [] := List.eq_nil_of_length_eq_zero (by omega)
      have e2:M=[]:=List.eq_nil_of_length_eq_zero (by omega)
      subst e1; subst e2
      refine ⟨nil0,[],f68_plflf [] [] (fun i=>((joinC [] [] i).length:Int)) nil0 [] (XG X) (callerOf TG) 3 2 (fun _=>[]) (fun _=>nil0) 2 _ _ l0 ?_ ?_ rfl,rfl⟩
      · have ht : TG 90 [nil0, i6 0] = some nil0 := rfl
        exact (call_spec (X:=XG X) (T:=TG) (σ:=[]) (ro:=0) (dr:=false) (hL.ok 90 rfl).1 (hL.ok 90 rfl).2.1 rfl ht rfl).trans rfl
      · refine f68_L1 [] [] (fun i => ((joinC [] [] i).length : Int)) nil0 [] 2 (fun _ => []) (fun _ => nil0) (XG X) (callerOf TG) 3 2 _ _ rfl rfl (by omega) (fun j hj => ?_) ?_ (by simp)
        · obtain ⟨r, hr⟩ := at_two (L := []) (M := []) (σ := []) hj
          have hp:pick2 [] [] j=[]:=by rcases j with _ | j <;> rfl
          rw [hp] at hr
          refine (f68_B1 [] [] (fun i=>((joinC [] [] i).length:Int)) nil0 (XG X) (callerOf TG) 3 2 (fun _=>[]) (fun _=>nil0) j 0 [] r nil0 [] (fun _=>hr) (fun _=>by show _=_; kernel_rfl) (fun _=>rfl) (fun _=>up hj (by decide)) (fun _=>rfl)).1 ?_
          unfold f68_o1
          rw [decide_eq_true (by omega)]
        · exact f68_r1_f [] [] (fun i=>((joinC [] [] i).length:Int)) nil0 (XG X) (callerOf TG) 3 2 (fun _=>[]) (fun _=>nil0) 2 (by decide)
    · let o : Nat → AV := fun i => .own 0 (joinC L M i).length
      let S:Nat→List Ob:=fun i=>[.arr (joinC L M i).length 5 ((joinC L M i).flatMap lexC)]
      refine ⟨_,_,f68_plflf L M (fun i=>((joinC L M i).length:Int)) (.own 0 0) [.arr 0 5 []] (XG X) (callerOf TG) 3 2 S o 2 _ _ l0 ?_ ?_ end_row,?_⟩
      · have ht : TG 90 [nil0, i6 ((joinC L M 2).length : Int)] = some (.list .fresh 0 5 []) := by
          have e:(joinC L M 2).length=L.length + M.length:=List.length_append
          show grow90 [.list .nil 0 0 [],.int .i64 ((joinC L M 2).length:Int)]=_
          unfold grow90
          rw [e]
          simp only
          rw [if_neg (by omega),if_pos ⟨by omega,by omega⟩]
        exact (call_spec (X:=XG X) (T:=TG) (σ:=[]) (ro:=0) (dr:=false) (hL.ok 90 rfl).1 (hL.ok 90 rfl).2.1 rfl ht rfl).trans rfl
      · refine f68_L1 L M (fun i => ((joinC L M i).length : Int)) (.own 0 0) [.arr 0 5 []] 2 S o (XG X) (callerOf TG) 3 2 _ _ rfl rfl (by omega) (fun j hj => ?_) ?_ (by simp)
        · obtain ⟨r, hr⟩ := at_two (L := L) (M := M) (σ := S j) hj
          refine (f68_B1 L M (fun i=>((joinC L M i).length:Int)) (.own 0 0) (XG X) (callerOf TG) 3 2 S o j (pick2 L M j).length ((pick2 L M j).flatMap lexC) r (o (j + 1)) (S (j + 1)) (fun _=>hr) (fun _ => ?_) (fun _=>rfl) (fun _=>up hj (by decide)) (fun _=>rfl)).1 ?_
          · have h1 := hJ (j + 1)
            rw [joinC_step L M hj,List.length_append] at h1
            have:=own_step (l:=joinC L M j) (m:=pick2 L M j) (by omega)
            rw [← joinC_step L M hj] at this
            exact this
          · unfold f68_o1
            rw [decide_eq_true (by omega)]
        · exact f68_r1_f L M (fun i=>((joinC L M i).length:Int)) (.own 0 0) (XG X) (callerOf TG) 3 2 S o 2 (by decide)
      · have e : joinC L M 2 = L ++ M := rfl
        rw [e]
        show cL.list.dec [.list .fresh (L ++ M).length 5 ((L ++ M).flatMap lexC)]=some (L ++ M)
        show (if (L ++ M).length=0 then _ else if 5=cL.k then cL.many (L ++ M).length ((L ++ M).flatMap cL.enc) else none)=some (L ++ M)
        rw [if_neg (by rw [List.length_append]; exact h0),if_pos (show 5=cL.k from rfl),Cod.many_de]
  obtain ⟨r,σ',h,hd⟩:=res
  exact run_res (B:=aLs) (XG_ok hX) hC (hL.dom 68 rfl rfl) Tryd.func68 (by kernel_rfl) h hd
end
end Go.Proofs.Lex
end
/- Lexicon: Merge, walked (printed) -/
section
open Go Go.Vm Go.Proofs
namespace Go.Proofs.Lex
def fg36:Nat→List Nat
  | 5004=>[1]
  | 5009=>[1]
  | _=>[]
def f36_F0 (L0 L1:List Lexm)(S0:Nat→List Ob)(i0:Nat):St :=
  stOf 47 [8,15,16,17,18,19,20,21] [(0,lro L0.length 5 (List.flatMap lexC L0)),(1,lro L1.length 5 (List.flatMap lexC L1)),(4,AV.list LK.nil 0 0 []),(5,i6 0),(6,AV.map 0),(11,AV.map 0),(12,lro L0.length 5 (List.flatMap lexC L0)),(13,i6 (↑L0.length:Int)),(14,i6 (↑i0:Int))] (S0 i0)
def f36_S0 (L0 L1:List Lexm):St :=
  stOf 47 [] [(0,lro L0.length 5 (List.flatMap lexC L0)),(1,lro L1.length 5 (List.flatMap lexC L1)),(4,AV.list LK.nil 0 0 []),(5,i6 0),(6,AV.map 0),(11,AV.map 0),(12,lro L0.length 5 (List.flatMap lexC L0)),(13,i6 (↑L0.length:Int)),(14,i6 0)] [Ob.mapo []]
abbrev f36_D0:List Nat:=[21,20,19,18,8,17,16,15]
theorem f36_L0 (L0 L1:List Lexm)(S0:Nat→List Ob)(X:Ext)(call:Caller)(lf n:Nat)(x:Ex) (S' : St)
 (e0:S0 0=[Ob.mapo []])
 (hn:n<lf)
 (hs:∀ j,j<n→∃ Sx,vexec Tryd.prog X call lf 0 fg36 (loopN Tryd.f36 0) (f36_F0 L0 L1 S0 j)=some (Ex.normal,Sx)∧forget f36_D0 Sx=(f36_F0 L0 L1 S0 (j + 1)))
 (he:vexec Tryd.prog X call lf 0 fg36 (loopN Tryd.f36 0) (f36_F0 L0 L1 S0 n)=some (x,S'))
 (hx:x ≠ Ex.normal):vexec Tryd.prog X call lf 0 fg36 (Go.Code.loop (loopN Tryd.f36 0)) (f36_S0 L0 L1)=some (x,S') :=
  loop_runK (by kernel_rfl) (fun j=>(f36_F0 L0 L1 S0 j)) n hn (by show forget f36_D0 (f36_S0 L0 L1)=(f36_F0 L0 L1 S0 0); unfold f36_F0; rw [e0]; show _=_; kernel_rfl) hs he hx
theorem f36_s0_t (L0 L1:List Lexm)(X:Ext)(call:Caller)(lf:Nat)(S0:Nat→List Ob)(i0:Nat)(a d e g:ByteArray)(h:Nat)(j r16:List AV)(sq10:List Ob)
 (h0:decide ((↑i0:Int)<(↑L0.length:Int))=true)
 (h1:keep (S0 i0) (indexAddrv Tryd.prog 22 (S0 i0) (lro L0.length 5 (List.flatMap lexC L0)) (i6 (↑i0:Int)))=some (AV.eaddr (st a::st d::st e::st g::lro h 2 j::r16),S0 i0))
 (h2:unit1 (mapUpdatev Tryd.prog 58 (S0 i0) 0 (AV.map 0) (st a) (bo true))=some (AV.undef,sq10))
 (e0:(↑(i0 + 1):Int)=w6 ((↑i0:Int) + 1))
 (e1:S0 (i0 + 1)=sq10):∃ Sx,vexec Tryd.prog X call lf 0 fg36 (loopN Tryd.f36 0) (f36_F0 L0 L1 S0 i0)=some (Ex.normal,Sx)∧forget f36_D0 Sx=(f36_F0 L0 L1 S0 (i0 + 1)) :=
  ⟨stOf 47 [] [(0,lro L0.length 5 (List.flatMap lexC L0)),(1,lro L1.length 5 (List.flatMap lexC L1)),(4,AV.list LK.nil 0 0 []),(5,i6 0),(6,AV.map 0),(8,AV.eaddr [st a,st d,st e,st g,lro h 2 j]),(11,AV.map 0),(12,lro L0.length 5 (List.flatMap lexC L0)),(13,i6 (↑L0.length:Int)),(14,i6 (w6 ((↑i0:Int) + 1))),(15,bo true),(16,AV.eaddr (st a::st d::st e::st g::lro h 2 j::r16)),(17,AV.agg [st a,st d,st e,st g,lro h 2 j]),(18,AV.map 0),(19,AV.eaddr [st a,st d,st e,st g,lro h 2 j]),(20,st a),(21,i6 (w6 ((↑i0:Int) + 1)))] sq10,around_sound (ans:=[(1,Ans.b true),(4,Ans.v (AV.eaddr (st a::st d::st e::st g::lro h 2 j::r16))),(10,Ans.c AV.undef sq10)]) (by kernel_rfl) (ai h0 (ai h1 (ai h2 trivial))),by unfold f36_F0; rw [e0,e1]; show _=_; kernel_rfl⟩
def f36_S1 (L0 L1:List Lexm)(S0:Nat→List Ob)(i0:Nat):St :=
  stOf 47 [8,16,17,18,19,20,21] [(0,lro L0.length 5 (List.flatMap lexC L0)),(1,lro L1.length 5 (List.flatMap lexC L1)),(4,AV.list LK.nil 0 0 []),(5,i6 0),(6,AV.map 0),(11,AV.map 0),(12,lro L0.length 5 (List.flatMap lexC L0)),(13,i6 (↑L0.length:Int)),(14,i6 (↑i0:Int)),(15,bo false)] (S0 i0)
theorem f36_r0_f (L0 L1:List Lexm)(X:Ext)(call:Caller)(lf:Nat)(S0:Nat→List Ob)(i0:Nat)
 (h0:decide ((↑i0:Int)<(↑L0.length:Int))=false):vexec Tryd.prog X call lf 0 fg36 (loopN Tryd.f36 0) (f36_F0 L0 L1 S0 i0)=some (Ex.exit 0,(f36_S1 L0 L1 S0 i0)) :=
  around_sound (ans:=[(1,Ans.b false)]) (by kernel_rfl) (ai h0 trivial)
def f36_F1 (L0 L1:List Lexm)(i0:Nat)(S1:Nat→List Ob)(i1:Nat):St :=
  stOf 47 [4,5,8,10,16,17,18,19,20,21,25,26,27,28,29,30,31,32,33,34,35] [(0,lro L0.length 5 (List.flatMap lexC L0)),(1,lro L1.length 5 (List.flatMap lexC L1)),(6,AV.map 0),(11,AV.map 0),(12,lro L0.length 5 (List.flatMap lexC L0)),(13,i6 (↑L0.length:Int)),(14,i6 (↑i0:Int)),(15,bo false),(22,lro L1.length 5 (List.flatMap lexC L1)),(23,i6 (↑L1.length:Int)),(24,i6 (↑i1:Int))] (S1 i1)
def f36_S2 (L0 L1:List Lexm)(S0:Nat→List Ob)(i0:Nat):St :=
  stOf 47 [8,16,17,18,19,20,21] [(0,lro L0.length 5 (List.flatMap lexC L0)),(1,lro L1.length 5 (List.flatMap lexC L1)),(4,AV.list LK.nil 0 0 []),(5,i6 0),(6,AV.map 0),(11,AV.map 0),(12,lro L0.length 5 (List.flatMap lexC L0)),(13,i6 (↑L0.length:Int)),(14,i6 (↑i0:Int)),(15,bo false),(22,lro L1.length 5 (List.flatMap lexC L1)),(23,i6 (↑L1.length:Int)),(24,i6 0)] (S0 i0)
abbrev f36_D1:List Nat:=[35,34,33,32,5,4,31,30,29,28,10,27,26,25]
theorem f36_L1 (L0 L1:List Lexm)(S0:Nat→List Ob)(i0:Nat)(S1:Nat→List Ob)(X:Ext)(call:Caller)(lf n:Nat)(x:Ex) (S' : St)
 (e0:S1 0=S0 i0)
 (hn:n<lf)
 (hs:∀ j,j<n→∃ Sx,vexec Tryd.prog X call lf 0 fg36 (loopN Tryd.f36 1) (f36_F1 L0 L1 i0 S1 j)=some (Ex.normal,Sx)∧forget f36_D1 Sx=(f36_F1 L0 L1 i0 S1 (j + 1)))
 (he:vexec Tryd.prog X call lf 0 fg36 (loopN Tryd.f36 1) (f36_F1 L0 L1 i0 S1 n)=some (x,S'))
 (hx:x ≠ Ex.normal):vexec Tryd.prog X call lf 0 fg36 (Go.Code.loop (loopN Tryd.f36 1)) (f36_S2 L0 L1 S0 i0)=some (x,S') :=
  loop_runK (by kernel_rfl) (fun j=>(f36_F1 L0 L1 i0 S1 j)) n hn (by show forget f36_D1 (f36_S2 L0 L1 S0 i0)=(f36_F1 L0 L1 i0 S1 0); unfold f36_F1; rw [e0]; show _=_; kernel_rfl) hs he hx
def f36_S3 (L0 L1:List Lexm)(i0:Nat)(S1:Nat→List Ob)(i1:Nat)(a b c d:ByteArray)(e:Nat)(g r26:List AV):St :=
  stOf 47 [8,16,17,18,19,20,21,32,33,34,35] [(0,lro L0.length 5 (List.flatMap lexC L0)),(1,lro L1.length 5 (List.flatMap lexC L1)),(4,AV.list LK.nil 0 0 []),(5,i6 5),(6,AV.map 0),(10,AV.eaddr [st a,st b,st c,st d,lro e 2 g]),(11,AV.map 0),(12,lro L0.length 5 (List.flatMap lexC L0)),(13,i6 (↑L0.length:Int)),(14,i6 (↑i0:Int)),(15,bo false),(22,lro L1.length 5 (List.flatMap lexC L1)),(23,i6 (↑L1.length:Int)),(24,i6 (↑i1:Int)),(25,bo true),(26,AV.eaddr (st a::st b::st c::st d::lro e 2 g::r26)),(27,AV.agg [st a,st b,st c,st d,lro e 2 g]),(28,AV.map 0),(29,AV.eaddr [st a,st b,st c,st d,lro e 2 g]),(30,st a),(31,bo true)] (S1 i1)
theorem f36_r1_tt (L0 L1:List Lexm)(X:Ext)(call:Caller)(lf i0:Nat)(S1:Nat→List Ob)(i1:Nat)(a c d e:ByteArray)(g:Nat)(h r26:List AV)
 (h0:decide ((↑i1:Int)<(↑L1.length:Int))=true)
 (h1:keep (S1 i1) (indexAddrv Tryd.prog 22 (S1 i1) (lro L1.length 5 (List.flatMap lexC L1)) (i6 (↑i1:Int)))=some (AV.eaddr (st a::st c::st d::st e::lro g 2 h::r26),S1 i1))
 (h2:keep (S1 i1) (lookupv Tryd.prog 58 (S1 i1) (AV.map 0) (st a) false)=some (bo true,S1 i1)):vexec Tryd.prog X call lf 0 fg36 (loopN Tryd.f36 1) (f36_F1 L0 L1 i0 S1 i1)=some (Ex.ret,(f36_S3 L0 L1 i0 S1 i1 a c d e g h r26)) :=
  around_sound (ans:=[(1,Ans.b true),(4,Ans.v (AV.eaddr (st a::st c::st d::st e::lro g 2 h::r26))),(10,Ans.v (bo true))]) (by kernel_rfl) (ai h0 (ai h1 (ai h2 trivial)))
theorem f36_plfltt (L0 L1:List Lexm)(X:Ext)(call:Caller)(lf:Nat)(S0:Nat→List Ob)(i0:Nat)(S1:Nat→List Ob)(i1:Nat)(a b c d:ByteArray)(e:Nat)(g r26:List AV)
 (h0:vexec Tryd.prog X call lf 0 fg36 (Code.loop (loopN Tryd.f36 0)) (f36_S0 L0 L1)=some (Ex.exit 0,(f36_S1 L0 L1 S0 i0)))
 (h1:vexec Tryd.prog X call lf 0 fg36 (Code.loop (loopN Tryd.f36 1)) (f36_S2 L0 L1 S0 i0)=some (Ex.ret,(f36_S3 L0 L1 i0 S1 i1 a b c d e g r26))):vbody Tryd.prog X call lf fg36 Tryd.f36 (codeOf Tryd.f36) [lexsV L0,lexsV L1] [] 0=some (AV.tup [AV.list LK.nil 0 0 [],i6 5],S1 i1) :=
  along_sound (ans:=[(10,Ans.l (Ex.exit 0) (f36_S1 L0 L1 S0 i0)),(15,Ans.l Ex.ret (f36_S3 L0 L1 i0 S1 i1 a b c d e g r26))]) (by kernel_rfl) (ai h0 (ai h1 trivial))
theorem f36_s1_tf (L0 L1:List Lexm)(X:Ext)(call:Caller)(lf i0:Nat)(S1:Nat→List Ob)(i1:Nat)(a d e g:ByteArray)(h:Nat)(j r26:List AV)(sq16:List Ob)
 (h0:decide ((↑i1:Int)<(↑L1.length:Int))=true)
 (h1:keep (S1 i1) (indexAddrv Tryd.prog 22 (S1 i1) (lro L1.length 5 (List.flatMap lexC L1)) (i6 (↑i1:Int)))=some (AV.eaddr (st a::st d::st e::st g::lro h 2 j::r26),S1 i1))
 (h2:keep (S1 i1) (lookupv Tryd.prog 58 (S1 i1) (AV.map 0) (st a) false)=some (bo false,S1 i1))
 (h3:unit1 (mapUpdatev Tryd.prog 58 (S1 i1) 0 (AV.map 0) (st a) (bo true))=some (AV.undef,sq16))
 (e0:(↑(i1 + 1):Int)=w6 ((↑i1:Int) + 1))
 (e1:S1 (i1 + 1)=sq16):∃ Sx,vexec Tryd.prog X call lf 0 fg36 (loopN Tryd.f36 1) (f36_F1 L0 L1 i0 S1 i1)=some (Ex.normal,Sx)∧forget f36_D1 Sx=(f36_F1 L0 L1 i0 S1 (i1 + 1)) :=
  ⟨stOf 47 [4,5,8,16,17,18,19,20,21] [(0,lro L0.length 5 (List.flatMap lexC L0)),(1,lro L1.length 5 (List.flatMap lexC L1)),(6,AV.map 0),(10,AV.eaddr [st a,st d,st e,st g,lro h 2 j]),(11,AV.map 0),(12,lro L0.length 5 (List.flatMap lexC L0)),(13,i6 (↑L0.length:Int)),(14,i6 (↑i0:Int)),(15,bo false),(22,lro L1.length 5 (List.flatMap lexC L1)),(23,i6 (↑L1.length:Int)),(24,i6 (w6 ((↑i1:Int) + 1))),(25,bo true),(26,AV.eaddr (st a::st d::st e::st g::lro h 2 j::r26)),(27,AV.agg [st a,st d,st e,st g,lro h 2 j]),(28,AV.map 0),(29,AV.eaddr [st a,st d,st e,st g,lro h 2 j]),(30,st a),(31,bo false),(32,AV.map 0),(33,AV.eaddr [st a,st d,st e,st g,lro h 2 j]),(34,st a),(35,i6 (w6 ((↑i1:Int) + 1)))] sq16,around_sound (ans:=[(1,Ans.b true),(4,Ans.v (AV.eaddr (st a::st d::st e::st g::lro h 2 j::r26))),(10,Ans.v (bo false)),(16,Ans.c AV.undef sq16)]) (by kernel_rfl) (ai h0 (ai h1 (ai h2 (ai h3 trivial)))),by unfold f36_F1; rw [e0,e1]; show _=_; kernel_rfl⟩
def f36_S4 (L0 L1:List Lexm)(i0:Nat)(S1:Nat→List Ob)(i1:Nat):St :=
  stOf 47 [4,5,8,10,16,17,18,19,20,21,26,27,28,29,30,31,32,33,34,35] [(0,lro L0.length 5 (List.flatMap lexC L0)),(1,lro L1.length 5 (List.flatMap lexC L1)),(6,AV.map 0),(11,AV.map 0),(12,lro L0.length 5 (List.flatMap lexC L0)),(13,i6 (↑L0.length:Int)),(14,i6 (↑i0:Int)),(15,bo false),(22,lro L1.length 5 (List.flatMap lexC L1)),(23,i6 (↑L1.length:Int)),(24,i6 (↑i1:Int)),(25,bo false)] (S1 i1)
theorem f36_r1_f (L0 L1:List Lexm)(X:Ext)(call:Caller)(lf i0:Nat)(S1:Nat→List Ob)(i1:Nat)
 (h0:decide ((↑i1:Int)<(↑L1.length:Int))=false):vexec Tryd.prog X call lf 0 fg36 (loopN Tryd.f36 1) (f36_F1 L0 L1 i0 S1 i1)=some (Ex.exit 2,(f36_S4 L0 L1 i0 S1 i1)) :=
  around_sound (ans:=[(1,Ans.b false)]) (by kernel_rfl) (ai h0 trivial)
theorem f36_plflft (L0 L1:List Lexm)(X:Ext)(call:Caller)(lf:Nat)(S0:Nat→List Ob)(i0:Nat)(S1:Nat→List Ob)(i1:Nat)
 (h0:vexec Tryd.prog X call lf 0 fg36 (Code.loop (loopN Tryd.f36 0)) (f36_S0 L0 L1)=some (Ex.exit 0,(f36_S1 L0 L1 S0 i0)))
 (h1:vexec Tryd.prog X call lf 0 fg36 (Code.loop (loopN Tryd.f36 1)) (f36_S2 L0 L1 S0 i0)=some (Ex.exit 2,(f36_S4 L0 L1 i0 S1 i1)))
 (h2:decide (w6 ((↑L0.length:Int) + (↑L1.length:Int))>256)=true):vbody Tryd.prog X call lf fg36 Tryd.f36 (codeOf Tryd.f36) [lexsV L0,lexsV L1] [] 0=some (AV.tup [AV.list LK.nil 0 0 [],i6 2],S1 i1) :=
  along_sound (ans:=[(10,Ans.l (Ex.exit 0) (f36_S1 L0 L1 S0 i0)),(15,Ans.l (Ex.exit 2) (f36_S4 L0 L1 i0 S1 i1)),(22,Ans.b true)]) (by kernel_rfl) (ai h0 (ai h1 (ai h2 trivial)))
theorem f36_plflff (L0 L1:List Lexm)(v46:AV)(X:Ext)(call:Caller)(lf:Nat)(S0:Nat→List Ob)(i0:Nat)(S1:Nat→List Ob)(i1 m44:Nat)(c44:List AV)(k44:LK)(m45:Nat)(c45:List AV)(rE:AV)(sE:List Ob)
 (h0:vexec Tryd.prog X call lf 0 fg36 (Code.loop (loopN Tryd.f36 0)) (f36_S0 L0 L1)=some (Ex.exit 0,(f36_S1 L0 L1 S0 i0)))
 (h1:vexec Tryd.prog X call lf 0 fg36 (Code.loop (loopN Tryd.f36 1)) (f36_S2 L0 L1 S0 i0)=some (Ex.exit 2,(f36_S4 L0 L1 i0 S1 i1)))
 (h2:decide (w6 ((↑L0.length:Int) + (↑L1.length:Int))>256)=false)
 (h3:bsl Tryd.prog 104 2 (S1 i1) false 0 [(0,lro L0.length 5 (List.flatMap lexC L0)),(1,lro L1.length 5 (List.flatMap lexC L1))]=some (AV.list k44 m44 1 c44,S1 i1))
 (h4:callv X call false 68 [AV.list k44 m44 1 c44] (S1 i1) 0=some (lro m45 5 c45,S1 i1))
 (h5:callv X call false 40 [lro m45 5 c45,AV.clo 69 []] (S1 i1) 0=some (v46,S1 i1))
 (h6:vend1 [] 0 (S1 i1) [v46,i6 0]=some (rE,sE)):vbody Tryd.prog X call lf fg36 Tryd.f36 (codeOf Tryd.f36) [lexsV L0,lexsV L1] [] 0=some (rE,sE) :=
  along_sound (ans:=[(10,Ans.l (Ex.exit 0) (f36_S1 L0 L1 S0 i0)),(15,Ans.l (Ex.exit 2) (f36_S4 L0 L1 i0 S1 i1)),(22,Ans.b false),(27,Ans.v (AV.list k44 m44 1 c44)),(28,Ans.v (lro m45 5 c45)),(29,Ans.v v46),(32,Ans.c rE sE)]) (by kernel_rfl) (ai h0 (ai h1 (ai h2 (ai h3 (ai h4 (ai h5 (ai h6 trivial)))))))
def f36_o0 (L0:List Lexm)(i0:Nat):Nat :=
  (match decide ((↑i0:Int)<(↑L0.length:Int)) with
  | true=>0
  | false=>1)
theorem f36_B0 (L0 L1:List Lexm)(X:Ext)(call:Caller)(lf:Nat)(S0:Nat→List Ob)(i0:Nat)(a b c d:ByteArray)(e:Nat)(g r16:List AV)(sq10:List Ob)
 (g0:decide ((↑i0:Int)<(↑L0.length:Int))=true→keep (S0 i0) (indexAddrv Tryd.prog 22 (S0 i0) (lro L0.length 5 (List.flatMap lexC L0)) (i6 (↑i0:Int)))=some (AV.eaddr (st a::st b::st c::st d::lro e 2 g::r16),S0 i0))
 (g1:decide ((↑i0:Int)<(↑L0.length:Int))=true→unit1 (mapUpdatev Tryd.prog 58 (S0 i0) 0 (AV.map 0) (st a) (bo true))=some (AV.undef,sq10))
 (e0:decide ((↑i0:Int)<(↑L0.length:Int))=true→(↑(i0 + 1):Int)=w6 ((↑i0:Int) + 1))
 (e1:decide ((↑i0:Int)<(↑L0.length:Int))=true→S0 (i0 + 1)=sq10) :
    (f36_o0 L0 i0=0→∃ Sx,vexec Tryd.prog X call lf 0 fg36 (loopN Tryd.f36 0) (f36_F0 L0 L1 S0 i0)=some (Ex.normal,Sx)∧forget f36_D0 Sx=(f36_F0 L0 L1 S0 (i0 + 1)))∧(f36_o0 L0 i0=1→vexec Tryd.prog X call lf 0 fg36 (loopN Tryd.f36 0) (f36_F0 L0 L1 S0 i0)=some (Ex.exit 0,(f36_S1 L0 L1 S0 i0))):=by
  unfold f36_o0
  cases c0:decide ((↑i0:Int)<(↑L0.length:Int)) with
  | true =>
    exact ⟨fun _=>f36_s0_t L0 L1 X call lf S0 i0 a b c d e g r16 sq10 c0 (g0 c0) (g1 c0) (e0 c0) (e1 c0),fun h=>absurd (show (0:Nat)=1 from h) (by decide)⟩
  | false =>
    exact ⟨fun h=>absurd (show (1:Nat)=0 from h) (by decide),fun _=>f36_r0_f L0 L1 X call lf S0 i0 c0⟩
def f36_o1 (L1:List Lexm)(i1:Nat)(b0:Bool):Nat :=
  (match decide ((↑i1:Int)<(↑L1.length:Int)) with
  | true=>(match b0 with
    | true=>1
    | false=>0)
  | false=>2)
theorem f36_B1 (L0 L1:List Lexm)(X:Ext)(call:Caller)(lf i0:Nat)(S1:Nat→List Ob)(i1:Nat)(a b c d:ByteArray)(e:Nat)(g r26:List AV)(sq16:List Ob)(b0:Bool)
 (g0:decide ((↑i1:Int)<(↑L1.length:Int))=true→keep (S1 i1) (indexAddrv Tryd.prog 22 (S1 i1) (lro L1.length 5 (List.flatMap lexC L1)) (i6 (↑i1:Int)))=some (AV.eaddr (st a::st b::st c::st d::lro e 2 g::r26),S1 i1))
 (g1:decide ((↑i1:Int)<(↑L1.length:Int))=true→keep (S1 i1) (lookupv Tryd.prog 58 (S1 i1) (AV.map 0) (st a) false)=some (bo b0,S1 i1))
 (g2:decide ((↑i1:Int)<(↑L1.length:Int))=true→b0=false→unit1 (mapUpdatev Tryd.prog 58 (S1 i1) 0 (AV.map 0) (st a) (bo true))=some (AV.undef,sq16))
 (e0:decide ((↑i1:Int)<(↑L1.length:Int))=true→(↑(i1 + 1):Int)=w6 ((↑i1:Int) + 1))
 (e1:decide ((↑i1:Int)<(↑L1.length:Int))=true→S1 (i1 + 1)=sq16) :
    (f36_o1 L1 i1 b0=0→∃ Sx,vexec Tryd.prog X call lf 0 fg36 (loopN Tryd.f36 1) (f36_F1 L0 L1 i0 S1 i1)=some (Ex.normal,Sx)∧forget f36_D1 Sx=(f36_F1 L0 L1 i0 S1 (i1 + 1)))∧(f36_o1 L1 i1 b0=1→vexec Tryd.prog X call lf 0 fg36 (loopN Tryd.f36 1) (f36_F1 L0 L1 i0 S1 i1)=some (Ex.ret,(f36_S3 L0 L1 i0 S1 i1 a b c d e g r26)))∧(f36_o1 L1 i1 b0=2→vexec Tryd.prog X call lf 0 fg36 (loopN Tryd.f36 1) (f36_F1 L0 L1 i0 S1 i1)=some (Ex.exit 2,(f36_S4 L0 L1 i0 S1 i1))):=by
  unfold f36_o1
  cases c0:decide ((↑i1:Int)<(↑L1.length:Int)) with
  | true =>
    cases c1:b0 with
    | true =>
      exact ⟨fun h=>absurd (show (1:Nat)=0 from h) (by decide),fun _=>f36_r1_tt L0 L1 X call lf i0 S1 i1 a b c d e g r26 c0 (g0 c0) (by have:=(g1 c0); rw [c1] at this; exact this),fun h=>absurd (show (1:Nat)=2 from h) (by decide)⟩
    | false =>
      exact ⟨fun _=>f36_s1_tf L0 L1 X call lf i0 S1 i1 a b c d e g r26 sq16 c0 (g0 c0) (by have:=(g1 c0); rw [c1] at this; exact this) (g2 c0 c1) (e0 c0) (e1 c0),fun h=>absurd (show (0:Nat)=1 from h) (by decide),fun h=>absurd (show (0:Nat)=2 from h) (by decide)⟩
  | false =>
    exact ⟨fun h=>absurd (show (2:Nat)=0 from h) (by decide),fun h=>absurd (show (2:Nat)=1 from h) (by decide),fun _=>f36_r1_f L0 L1 X call lf i0 S1 i1 c0⟩
def f36_q1 (L0 L1:List Lexm):Nat :=
  (match decide (w6 ((↑L0.length:Int) + (↑L1.length:Int))>256) with
  | true=>0
  | false=>1)
theorem f36_P1 (L0 L1:List Lexm)(X:Ext)(call:Caller)(lf:Nat)(S0:Nat→List Ob)(i0:Nat)(S1:Nat→List Ob)(i1:Nat)(v46:AV)(m44:Nat)(c44:List AV)(k44:LK)(m45:Nat)(c45:List AV)(rE:AV)(sE:List Ob)
 (g0:vexec Tryd.prog X call lf 0 fg36 (Code.loop (loopN Tryd.f36 0)) (f36_S0 L0 L1)=some (Ex.exit 0,(f36_S1 L0 L1 S0 i0)))
 (g1:vexec Tryd.prog X call lf 0 fg36 (Code.loop (loopN Tryd.f36 1)) (f36_S2 L0 L1 S0 i0)=some (Ex.exit 2,(f36_S4 L0 L1 i0 S1 i1)))
 (g2:decide (w6 ((↑L0.length:Int) + (↑L1.length:Int))>256)=false→bsl Tryd.prog 104 2 (S1 i1) false 0 [(0,lro L0.length 5 (List.flatMap lexC L0)),(1,lro L1.length 5 (List.flatMap lexC L1))]=some (AV.list k44 m44 1 c44,S1 i1))
 (g3:decide (w6 ((↑L0.length:Int) + (↑L1.length:Int))>256)=false→callv X call false 68 [AV.list k44 m44 1 c44] (S1 i1) 0=some (lro m45 5 c45,S1 i1))
 (g4:decide (w6 ((↑L0.length:Int) + (↑L1.length:Int))>256)=false→callv X call false 40 [lro m45 5 c45,AV.clo 69 []] (S1 i1) 0=some (v46,S1 i1))
 (g5:decide (w6 ((↑L0.length:Int) + (↑L1.length:Int))>256)=false→vend1 [] 0 (S1 i1) [v46,i6 0]=some (rE,sE)) :
    (f36_q1 L0 L1=0→vbody Tryd.prog X call lf fg36 Tryd.f36 (codeOf Tryd.f36) [lexsV L0,lexsV L1] [] 0=some (AV.tup [AV.list LK.nil 0 0 [],i6 2],S1 i1))∧(f36_q1 L0 L1=1→vbody Tryd.prog X call lf fg36 Tryd.f36 (codeOf Tryd.f36) [lexsV L0,lexsV L1] [] 0=some (rE,sE)):=by
  unfold f36_q1
  cases c0:decide (w6 ((↑L0.length:Int) + (↑L1.length:Int))>256) with
  | true =>
    exact ⟨fun _=>f36_plflft L0 L1 X call lf S0 i0 S1 i1 g0 g1 c0,fun h=>absurd (show (0:Nat)=1 from h) (by decide)⟩
  | false =>
    exact ⟨fun h=>absurd (show (1:Nat)=0 from h) (by decide),fun _=>f36_plflff L0 L1 v46 X call lf S0 i0 S1 i1 m44 c44 k44 m45 c45 rE sE g0 g1 c0 (g2 c0) (g3 c0) (g4 c0) (g5 c0)⟩
end Go.Proofs.Lex
end
/- Lexicon: Merge, the program's and the reference's. -/
section
open Go Go.Vm Go.Proofs
namespace Go.Proofs.Lex
/-- The identifiers known after some lexemes. -/
def idsN (K:List ByteArray) (L:List Lexm):Nat→List ByteArray
  | 0=>K
  | i + 1=>putS (idsN K L i) (nL L i).id
theorem idsN_mem {K:List ByteArray} {L:List Lexm} {c:ByteArray}:∀ i,(idsN K L i).any (fun x=>decide (x=c))=true ↔ K.any (fun x=>decide (x=c))=true ∨ ∃ j,j < i∧(nL L j).id=c
  | 0=>by simp [idsN]
  | i + 1 => by
    have ih:=idsN_mem (K:=K) (L:=L) (c:=c) i
    unfold idsN putS
    constructor
    · intro h
      split at h
      · rcases ih.1 h with h | ⟨j, hj, e⟩
        · exact .inl h
        · exact .inr ⟨j,by omega,e⟩
      · rw [List.any_append, Bool.or_eq_true] at h
        rcases h with h | h
        · rcases ih.1 h with h | ⟨j, hj, e⟩
          · exact .inl h
          · exact .inr ⟨j,by omega,e⟩
        · exact .inr ⟨i,by omega,by simpa using h⟩
    · intro h
      have h' : (idsN K L i).any (fun x => decide (x = c)) = true ∨ (nL L i).id = c := by
        rcases h with h | ⟨j,hj,e⟩
        · exact .inl (ih.2 (.inl h))
        · by_cases hji : j = i
          · subst hji; exact .inr e
          · exact .inl (ih.2 (.inr ⟨j,by omega,e⟩))
      split
      · rename_i hp
        rcases h' with h' | h'
        · exact h'
        · rw [← h']; exact hp
      · rw [List.any_append, Bool.or_eq_true]
        rcases h' with h' | h'
        · exact .inl h'
        · exact .inr (by simpa using h')
/-- Whether an identifier of the second list is known already. -/
def badM (A B:List Lexm) (i:Nat):Bool:=(idsN (idsN [] A A.length) B i).any fun x=>decide (x=(nL B i).id)
theorem badM_iff {A B:List Lexm} {i:Nat}:badM A B i=true ↔ (∃ j,j < A.length∧(nL A j).id=(nL B i).id) ∨ ∃ j,j < i∧(nL B j).id=(nL B i).id:=by
  unfold badM
  rw [idsN_mem,idsN_mem]
  simp
def mergeF (A B:List Lexm):List Lexm × Int:=if ∃ i,i < B.length∧badM A B i=true then ([],5) else if 256 < A.length + B.length then ([],2) else (A ++ B,0)
theorem lookEs_es (c:ByteArray):∀ (l:List ByteArray),lookupEs (st c) (esOf l)=some (if l.any (fun x=>decide (x=c))=true then some (bo true) else none)
  | []=>rfl
  | x :: l => by
    show lookupEs (st c) ((st x,bo true)::esOf l)=_
    unfold lookupEs
    rw [lookEs_es c l]
    by_cases h:c=x
    · subst h
      simp
    · have h' : ¬ x = c := fun e => h e.symm
      rw [List.any_cons,decide_eq_false h',Bool.false_or]
      simp only [if_neg h]
theorem look58 (c:ByteArray) (l:List ByteArray):keep [.mapo (esOf l)] (lookupv Tryd.prog 58 [.mapo (esOf l)] (.map 0) (st c) false)=some (bo (l.any fun x=>decide (x=c)),[.mapo (esOf l)]):=by
  have hu:Tryd.prog.underlying 58=some (.map 9 4):=by kernel_rfl
  have hz:zerov Tryd.prog 4=some (bo false):=by kernel_rfl
  unfold lookupv entriesOf
  rw [hu]
  simp only [Tryd.underlying9,List.getElem?_cons_zero,hz,lookEs_es]
  rw [if_pos (show isKey TypeDesc.string (st c)=true from rfl)]
  cases l.any fun x=>decide (x=c) <;> rfl
abbrev aLsE [Fixed]:Arg (List Lexm × Int):=Arg.tup2 aLs aI
section
variable [Fixed] {X:Ext} {call:Caller} {lf:Nat}
theorem endV2 {σ:List Ob} {v:AV} {L:List Lexm} {n:Int} (hd:aLs.dec v=some L) (ho:AV.owns v=[]):∃ r,vend1 [] 0 σ [v,i6 n]=some (r,σ)∧aLsE.dec r=some (L,n):=by
  have h1 : aLs.dec (unfr1 v) = some L := by
    cases v <;> first | exact hd | skip
    · rename_i kk _ _ _
      cases kk <;> exact hd
  refine ⟨.tup [unfr1 v,i6 n],vend1_plain (by simp only [AV.ownsAll,AV.owns,ho,List.append_nil]),?_⟩
  have h2:aI.dec (i6 n)=some n:=aI.de n
  unfold aLsE Arg.tup2
  simp only [h1,h2]
theorem call69 (hX:ExtOk Tryd.prog X) (hL:XL X) {x:Lexm}:CallAt Tryd.prog 69 [aL.enc x] [] 0 (aB.enc true) [] :=
  run_res (B:=aB) hX (callerOf_ok SpecOk.none') (hL.dom 69 rfl rfl) Tryd.func69 (by kernel_rfl) (f69_p x X (callerOf fun _ _=>none) 0) rfl
def TM:Go.Vm.Spec:=(T1.on 68 (sp1 aLss fun l=>match l with
  | [L,M]=>if (L.length + M.length) * 89 ≤ big then some (aLs.enc (L ++ M)) else none
  | _=>none)).on 69 (sp1 aL fun _=>some (aB.enc true))
theorem TM_ok (hX:ExtOk Tryd.prog X) (hL:XL X):SpecOk Tryd.prog TM:=by
  refine SpecOk.on1 (SpecOk.on1 (T1_ok hX hL) fun l r h => ?_) fun x r h => ?_
  · split at h
    · split at h
      · rename_i hb
        simp only [Option.some.injEq] at h
        subst h
        exact call68 hX hL hb
      · cases h
    · cases h
  · simp only [Option.some.injEq] at h
    subst h
    exact call69 hX hL
theorem TM_61 (x:Lexm) (h:okL x):TM 61 [aL.enc x]=some (aL.enc x):=T1_61 x h
/-- filter, by a closure that keeps all. -/
theorem filt40 (hL:XL X) {L:List Lexm} (hok:okLs L) (hlf:L.length < lf) (k:Nat) :
    ∃ (r:AV) (σ' : List Ob),vbody Tryd.prog X (vcallL Tryd.prog X TM lf k) lf fg40 Tryd.f40 (codeOf Tryd.f40) [lexsV L,.clo 69 []] [] 0=some (r,σ')∧aLs.dec r=some L∧AV.owns r=[]:=by
  have hl:L.length * 89 ≤ 140737488355328:=hok.1
  have hmem:∀ i,i < L.length→nL L i ∈ L:=fun i hi=>by rw [nL,getD_lt hi]; exact List.getElem_mem hi
  have ho : ∀ i, (i < L.length → f40e_o0 L i true = 0) ∧ (¬ i < L.length → f40e_o0 L i true = 1) := by
    intro i
    unfold f40e_o0
    refine ⟨fun h1 => ?_,fun h1 => ?_⟩
    · rw [decide_eq_true (by omega)]
    · rw [decide_eq_false (by omega)]
  let l:Nat→List Lexm:=fun i=>L.take i
  have hstep : ∀ i, i < L.length → l (i + 1) = l i ++ [nL L i] := fun i hi => by
    show L.take (i + 1)=_
    rw [List.take_succ_eq_append_getElem hi,nL,getD_lt hi]
  have hlen:∀ i,(l i).length ≤ i:=fun i=>by show (L.take i).length ≤ i; rw [List.length_take]; omega
  have lt_of:∀ {i:Nat},decide ((i:Int) < (L.length:Int))=true→i < L.length:=fun h=>by have:=of_decide_eq_true h; omega
  have M := f40e_M L (fun i => grS cL [] (l i)) (fun i => grV nil0 0 (l i).length) X (vcallL Tryd.prog X TM lf k) lf L.length (fun i => (nL L i).id) (fun i => (nL L i).cat) (fun i => (nL L i).stem) (fun i => (nL L i).par) _ _ _ (fun i => (nL L i).id) (fun i => (nL L i).cat) (fun i => (nL L i).stem) (fun i => (nL L i).par) _ _ _ _ _ _ _ (fun _ => true) rfl rfl hlf
    (fun i _ h=>at_lex (lt_of h))
    (fun i _ h => by
      obtain ⟨a1,a2,a3⟩:=hL.ok 69 rfl
      refine call_onL (B:=aB) (y:=true) a1 a2 a3 (by show AV.ltAll 0 [aL.enc (nL L i)]=true; simp only [AV.ltAll,aL.lt,Bool.and_self]) ?_
      show sp1 aL _ [aL.enc (nL L i)]=_
      rw [sp1_at (aL.de _)])
    (fun i _ h _ => by
      obtain ⟨a1,a2,a3⟩:=hL.ok 61 rfl
      refine call_onL (B:=aL) (y:=nL L i) a1 a2 a3 (by show AV.ltAll 0 [aL.enc (nL L i)]=true; simp only [AV.ltAll,aL.lt,Bool.and_self]) ?_
      exact TM_61 _ (hok.2 _ (hmem i (lt_of h))))
    (fun i _ h _=>bsl_one Tryd.underlying22 cells33 zero33 rfl rfl (by simp) (owns_lex _) rfl)
    (fun i _ h _ => by
      refine gr_step (σ0:=[]) (m:=[nL L i]) rowL (.inl rfl) (appended_row [nL L i]) ?_
      have:=hlen i
      have:=lt_of h
      show _ ≤ 140737488355328
      simp only [List.length_singleton]
      omega)
    (fun i h _ _=>by show grV _ _ (l (i + 1)).length=_; rw [hstep i h]; rfl)
    (fun i h _=>up h (by show _ ≤ 140737488355328; omega))
    (fun i h _ _=>by show grS _ _ (l (i + 1))=_; rw [hstep i h])
    (fun i h _ hp=>by cases hp)
    (fun i h _ hp=>by cases hp)
    (fun j hj=>(ho j).1 hj)
  obtain ⟨r,σ',h1,h2,h3⟩:=gr_end (A:=cL) (lk := .nil) (sz0:=0) (σ1:=[]) (σ0:=[]) (l L.length)
  refine ⟨r,[] ++ σ',M ((ho _).2 (by omega)) _ _ h1,?_,h3⟩
  have:l L.length=L:=List.take_length
  rw [this] at h2
  exact h2
theorem cv40 (hL:XL X) {L:List Lexm} (hok:okLs L) (hlf:L.length < lf) (σ:List Ob):∃ v,callv X (vcallL Tryd.prog X TM lf 1) false 40 [lexsV L,.clo 69 []] σ 0=some (v,σ)∧aLs.dec v=some L∧AV.owns v=[]:=by
  obtain ⟨r,σ',h,hd,ho⟩:=filt40 (lf:=lf) (X:=X) hL hok hlf 0
  obtain ⟨a1,a2,a3⟩:=hL.ok 40 rfl
  have hw : vcallL Tryd.prog X TM lf 1 40 [lexsV L, .clo 69 []] [] 0 = some (r, σ') := by
    have ht:TM 40 [lexsV L,.clo 69 []]=none:=rfl
    have hb:Tryd.f40.body=some (codeOf Tryd.f40):=by kernel_rfl
    have hf:Tryd.prog.funcs[40]? = some Tryd.f40:=Tryd.func40
    simp only [vcallL,callerOf,ht,hL.dom 40 rfl rfl,if_true,hf,hb,hL.fg]
    exact h
  have hlt : AV.ltAll 0 [lexsV L, AV.clo 69 []] = true := by
    show AV.ltAll 0 [aLs.enc L,AV.clo 69 []]=true
    simp only [AV.ltAll,aLs.lt,Bool.true_and,Bool.and_true]
    rfl
  refine ⟨unfr r,?_,?_,?_⟩
  · unfold callv
    rw [a1,a2]
    simp only [hlt,if_true,hw]
    rw [if_pos (show r.pure=true from aLs.declt _ _ hd),a3]
    rfl
  · cases r <;> first | exact hd | skip
    · rename_i kk _ _ _
      cases kk <;> exact hd
    · cases hd
  · cases r <;> first | exact ho | skip
    · rename_i kk _ _ _
      cases kk <;> exact ho
    · cases hd
end
end Go.Proofs.Lex
end
/- Lexicon: alphabets, told: ValidRune, indices, Valid; words. -/
section
open Go Go.Vm Go.Proofs
namespace Go.Proofs.Lex
/-- A rune that UTF-8 can write. -/
def validR (n:Int):Bool:=(decide (0 ≤ n) && decide (n < 55296)) || (decide (57343 < n) && decide (n ≤ 1114111))
def goodL (x:Lett):Bool := !decide (x.r ≤ 32) && validR x.r
/-- Whether letters are an alphabet. -/
def alphaF (a:List Lett):Bool:=decide (1 ≤ a.length) && (decide (a.length ≤ 64) && (a.all goodL && decide ((idxR a a.length).length=a.length)))
theorem under110:Tryd.prog.underlying 110=some (.map 21 3):=by kernel_rfl
theorem zero3:zerov Tryd.prog 3=some (i6 0):=by kernel_rfl
theorem look110 {l:List (Int × Nat)} {r:Int}:keep [.mapo (mapR l)] (lookupv Tryd.prog 110 [.mapo (mapR l)] (.map 0) (i3 r) true)=some (.tup [i6 (((l.find? fun e=>e.1 == r).map fun e=>(e.2:Int)).getD 0),bo (l.any fun e=>e.1 == r)],[.mapo (mapR l)]):=by
  have hu:=Tryd.underlying21
  unfold lookupv entriesOf
  rw [under110]
  simp only [hu,List.getElem?_cons_zero,zero3,look_E]
  rw [if_pos (show isKey (TypeDesc.int IntKind.i32) (i3 r)=true from rfl),← find_any]
  cases h:l.find? fun e=>e.1 == r <;> rfl
theorem put110 {l:List (Int × Nat)} {r:Int} {k:Nat} (h:(l.any fun e=>e.1 == r)=false):unit1 (mapUpdatev Tryd.prog 110 [.mapo (mapR l)] 0 (.map 0) (i3 r) (i6 (k:Int)))=some (.undef,[.mapo (mapR (l ++ [(r,k)]))]):=by
  have hu:=Tryd.underlying21
  unfold mapUpdatev
  rw [under110]
  simp only [hu,List.getElem?_cons_zero,put_E h]
  rw [if_pos ⟨show isKey (TypeDesc.int IntKind.i32) (i3 r)=true from rfl,Nat.le_refl _⟩]
  rfl
section
variable {X:Ext} {call:Caller} {lf:Nat}
/-- alphabet.indices. -/
theorem indices92 {a:List Lett} (hl:a.length ≤ big) (hlf:a.length < lf):vbody Tryd.prog X call lf fg92 Tryd.f92 (codeOf Tryd.f92) [lettsV a] [] 0=some (.map 0,[.mapo (mapR (idxR a a.length))]):=by
  have lt:∀ {i:Nat},decide ((i:Int) < (a.length:Int))=true→i < a.length:=fun h=>by have:=of_decide_eq_true h; omega
  refine f92_M a X call lf a.length (fun i => (nT a i).r) (fun i => (nT a i).c) (fun i => tT a i) (fun i => ((((idxR a i).find? fun e => e.1 == (nT a i).r).map fun e => (e.2 : Int)).getD 0)) (fun i => (idxR a i).any fun e => e.1 == (nT a i).r) (fun i => [.mapo (mapR (idxR a i ++ [((nT a i).r, i)]))]) hlf
    (fun i _ h=>at_lett (lt h)) (fun i _ _=>look110) (fun i _ _ h=>put110 h) (fun i _ h=>up (lt h) hl) (fun i _ _ h => ?_) (fun i _ _ h => ?_) (fun j hj => ?_) ?_
  · show [Ob.mapo (mapR (if _ then _ else _))] = _
    rw [if_pos h]
  · show [Ob.mapo (mapR (if _ then _ else _))] = _
    rw [if_neg (by rw [h]; simp)]
  · unfold f92_o0
    rw [decide_eq_true (by omega)]
    cases (idxR a j).any fun e=>e.1 == (nT a j).r <;> rfl
  · unfold f92_o0
    rw [decide_eq_false (by omega)]
end
theorem callv_fresh {X:Ext} {call:Caller} {f:FuncId} {vs:List AV} {r:AV} {s:List Ob} (h1:X.pureFn f=none) (h2:X.stFn f=none) (hl:AV.ltAll 0 vs=true) (h:call f vs [] 0=some (r,s)) (hp:r.pure=false):callv X call false f vs [] 0=some (unfr r,s):=by
  unfold callv
  rw [h1,h2]
  simp only [hl,if_true,h,hp,Bool.false_eq_true,if_false,freshRes]
section
variable [Fixed] {X:Ext}
theorem call91 (hX:ExtOk Tryd.prog X) (hL:XL X) (n:Int):CallAt Tryd.prog 91 [aR.enc n] [] 0 (aB.enc (validR n)) []:=by
  have hC:=callerOf_ok (SpecOk.none' (P:=Tryd.prog))
  have M:=f91_P0 n X (callerOf fun _ _=>none) 0
  have hq : f91_q0 n = if validR n then 0 else 1 := by
    unfold f91_q0 validR
    cases decide (0 ≤ n) <;> cases decide (n < 55296) <;> cases decide (57343 < n) <;> cases decide (n ≤ 1114111) <;> rfl
  cases h:validR n with
  | true=>exact run_res (B:=aB) hX hC (hL.dom 91 rfl rfl) Tryd.func91 (by kernel_rfl) (M.1 (by rw [hq,h]; rfl)) rfl
  | false=>exact run_res (B:=aB) hX hC (hL.dom 91 rfl rfl) Tryd.func91 (by kernel_rfl) (M.2 (by rw [hq,h]; rfl)) rfl
def V70:Go.Vm.Spec:=Go.Vm.Spec.on (fun _ _=>none) 91 (s1 aR aB validR fun _=>True)
theorem V70_ok (hX:ExtOk Tryd.prog X) (hL:XL X):SpecOk Tryd.prog V70:=SpecOk.s1 SpecOk.none' fun n _=>call91 hX hL n
theorem idx_call (hL:XL X) {T:Go.Vm.Spec} {a:List Lett} {lf:Nat} (hl:a.length ≤ big) (hlf:a.length < lf) (hT:T 92 [lettsV a]=none):callv X (vcallL Tryd.prog X T lf 1) false 92 [lettsV a] [] 0=some (.map 0,[.mapo (mapR (idxR a a.length))]):=by
  obtain ⟨a1,a2,a3⟩:=hL.ok 92 rfl
  refine callv_fresh (r := .map 0) a1 a2 ?_ ?_ rfl
  · have := aTs.lt a
    show (AV.lt 0 (lettsV a) && true)=true
    rw [show AV.lt 0 (lettsV a)=true from this]
    rfl
  · have hb : Tryd.f92.body = some (codeOf Tryd.f92) := by kernel_rfl
    simp only [vcallL,callerOf,hT,hL.dom 92 rfl rfl,if_true,Tryd.func92,hb]
    rw [hL.fg 92]
    exact indices92 hl hlf
/-- alphabet.Valid. -/
theorem call70 (hX:ExtOk Tryd.prog X) (hL:XL X) {a:List Lett} (hl:a.length ≤ big):CallAt Tryd.prog 70 [aTs.enc a] [] 0 (aB.enc (alphaF a)) []:=by
  have hC:=vcallL_ok hX (V70_ok hX hL) (a.length + 1) 1
  have hb:Tryd.f70.body=some (codeOf Tryd.f70):=by kernel_rfl
  by_cases h1:(a.length:Int) < 1
  · have : alphaF a = false := by
      unfold alphaF
      rw [decide_eq_false (by omega)]
      rfl
    rw [this]
    exact run_res (B:=aB) hX hC (hL.dom 70 rfl rfl) Tryd.func70 hb (f70_pt a X _ (a.length + 1) (decide_eq_true h1)) rfl
  by_cases h2:(a.length:Int) > 64
  · have : alphaF a = false := by
      unfold alphaF
      rw [decide_eq_true (show 1 ≤ a.length by omega),decide_eq_false (by omega)]
      rfl
    rw [this]
    exact run_res (B:=aB) hX hC (hL.dom 70 rfl rfl) Tryd.func70 hb (f70_pft a X _ (a.length + 1) (decide_eq_false h1) (decide_eq_true h2)) rfl
  have hbase : alphaF a = (a.all goodL && decide ((idxR a a.length).length = a.length)) := by
    unfold alphaF
    rw [decide_eq_true (show 1 ≤ a.length by omega),decide_eq_true (show a.length ≤ 64 by omega)]
    rfl
  have h91 : ∀ n : Int, callv X (vcallL Tryd.prog X V70 (a.length + 1) 1) false 91 [i3 n] [] 0 = some (bo (validR n), []) := fun n => by
    obtain ⟨a1,a2,a3⟩:=hL.ok 91 rfl
    exact call_onL (B:=aB) (y:=validR n) a1 a2 a3 rfl (s1_at (A:=aR) (B:=aB) (g:=validR) (ok:=fun _=>True) trivial)
  have lt:∀ {i:Nat},decide ((i:Int) < (a.length:Int))=true→i < a.length:=fun h=>by have:=of_decide_eq_true h; omega
  have M := fun n hn hz => f70_M a X (vcallL Tryd.prog X V70 (a.length + 1) 1) (a.length + 1) n (fun i => (nT a i).r) (fun i => (nT a i).c) (fun i => tT a i) (fun i => validR (nT a i).r) hn
    (fun i _ h=>at_lett (lt h)) (fun i _ _ _=>h91 _) (fun i _ h=>up (lt h) hl) hz
  have hz : ∀ j, j < a.length → goodL (nT a j) = true → f70_o0 a j (nT a j).r (validR (nT a j).r) = 0 := fun j hj hg => by
    unfold f70_o0
    rw [decide_eq_true (by omega)]
    unfold goodL at hg
    rw [Bool.and_eq_true,Bool.not_eq_true'] at hg
    simp only [hg.1,hg.2]
  rcases first_fail (p:=fun j=>goodL (nT a j)=true) a.length with hall | ⟨k,hk,hbad,hbef⟩
  · have ha : a.all goodL = true := all_nth.2 hall
    rw [hbase,ha,Bool.true_and]
    have m:=M a.length (Nat.lt_succ_self _) fun j hj=>hz j hj (hall j hj)
    have ho : f70_o0 a a.length (nT a a.length).r (validR (nT a a.length).r) = 2 := by
      unfold f70_o0
      rw [decide_eq_false (by omega)]
    have hi:=idx_call (X:=X) (T:=V70) (lf:=a.length + 1) hL hl (Nat.lt_succ_self _) rfl
    have hlen:(mapR (idxR a a.length)).length=(idxR a a.length).length:=List.length_map ..
    by_cases e:(idxR a a.length).length=a.length
    · rw [decide_eq_true e]
      exact run_res (B:=aB) hX hC (hL.dom 70 rfl rfl) Tryd.func70 hb (m.2.2.1 ho (decide_eq_false h1) (decide_eq_false h2) hi (by rw [hlen,e]; simp)) rfl
    · rw [decide_eq_false e]
      exact run_res (B:=aB) hX hC (hL.dom 70 rfl rfl) Tryd.func70 hb (m.2.2.2 ho (decide_eq_false h1) (decide_eq_false h2) hi (by rw [hlen]; exact beq_eq_false_iff_ne.2 (by omega))) rfl
  · have ha : a.all goodL = false := by
      rw [Bool.eq_false_iff]
      intro hc
      exact hbad (all_nth.1 hc k hk)
    rw [hbase,ha,Bool.false_and]
    have m:=M k (by omega) fun j hj=>hz j (by omega) (hbef j hj)
    have ho : f70_o0 a k (nT a k).r (validR (nT a k).r) = 1 := by
      unfold f70_o0
      rw [decide_eq_true (by omega)]
      unfold goodL at hbad
      cases h1:decide ((nT a k).r ≤ 32) with
      | true=>simp only
      | false =>
        rw [h1] at hbad
        simp only [Bool.not_false,Bool.true_and,Bool.not_eq_true] at hbad
        simp only [hbad]
    exact run_res (B:=aB) hX hC (hL.dom 70 rfl rfl) Tryd.func70 hb (m.1 ho (decide_eq_false h1) (decide_eq_false h2)) rfl
end
end Go.Proofs.Lex
end
/- Lexicon: words over an alphabet, told. -/
section
open Go Go.Vm Go.Proofs
namespace Go.Proofs.Lex
/-- The k-th letter of a string. -/
def rnS (s:ByteArray) (k:Nat):Int:=((Utf8.decode s (posR s k)).1:Int)
def okK (a:List Lett) (s:ByteArray) (k:Nat):Prop:=posR s k < s.size∧hasR a (rnS s k)=true
def wordW (a:List Lett) (s:ByteArray):Nat→Nat→Bool
  | 0,_=>false
  | n + 1,k=>if posR s k < s.size then (if hasR a (rnS s k) then wordW a s n (k + 1) else false) else decide ((k:Int) ≤ 40)
/-- Whether a string is a word. -/
def isWordF (a:List Lett) (s:ByteArray):Bool:=Lib.validD s.data.toList && wordW a s (s.size + 1) 0
theorem word_run (a:List Lett) (s:ByteArray):∀ (d j m:Nat),(∀ i,j ≤ i→i < j + d→okK a s i)→wordW a s (m + d) j=wordW a s m (j + d)
  | 0,j,m,_=>rfl
  | d + 1, j, m, h => by
    obtain ⟨h1,h2⟩:=h j (Nat.le_refl _) (by omega)
    show (if posR s j < s.size then (if hasR a (rnS s j) then wordW a s (m + d) (j + 1) else false) else decide ((j:Int) ≤ 40))=_
    rw [if_pos h1,if_pos h2,word_run a s d (j + 1) m fun i hi1 hi2=>h i (by omega) (by omega)]
    congr 1
    omega
theorem pos_ge (s:ByteArray):∀ k,(∀ j,j < k→posR s j < s.size)→k ≤ posR s k
  | 0,_=>Nat.le_refl _
  | k + 1, h => by
    have ih:=pos_ge s k fun j hj=>h j (by omega)
    have:=decode_pos s (posR s k) (h k (by omega))
    show k + 1 ≤ posR s k + (Utf8.decode s (posR s k)).2
    omega
theorem pos_le {s:ByteArray} {k:Nat} (h:∀ j,j < k→posR s j < s.size):k ≤ s.size:=by
  cases k with
  | zero=>exact Nat.zero_le _
  | succ k =>
    have:=pos_ge s k fun j hj=>h j (by omega)
    have:=h k (by omega)
    omega
theorem word_at {a:List Lett} {s:ByteArray} {k:Nat} (h:∀ j,j < k→okK a s j):wordW a s (s.size + 1) 0=wordW a s (s.size - k + 1) k:=by
  have hk:=pos_le fun j hj=>(h j hj).1
  have:=word_run a s k 0 (s.size - k + 1) fun i _ hi=>h i (by omega)
  rw [Nat.zero_add] at this
  rw [← this]
  congr 1
  omega
theorem word_end {a:List Lett} {s:ByteArray} {k:Nat} (h:∀ j,j < k→okK a s j) (he : ¬ posR s k < s.size):wordW a s (s.size + 1) 0=decide ((k:Int) ≤ 40):=by
  rw [word_at h]
  show (if _ then _ else _)=_
  rw [if_neg he]
theorem word_bad {a:List Lett} {s:ByteArray} {k:Nat} (h:∀ j,j < k→okK a s j) (he:posR s k < s.size) (hb:hasR a (rnS s k)=false):wordW a s (s.size + 1) 0=false:=by
  rw [word_at h]
  show (if _ then (if _ then _ else _) else _)=_
  rw [if_pos he,if_neg (by rw [hb]; simp)]
/-- .. and utf8.ValidString is told. -/
structure XV [Fixed] (X:Ext):Prop extends XM X where
  valid:X.pureFn 93=some validFn
/-! ### the walk -/
def rgF (fn:Func) (k:Nat):Code := .region k (opsF fn k) false
def bodyC (fn:Func):Code := .block 1 (.seq (rgF fn 6) (.seq (.seq (rgF fn 7) (.seq (rgF fn 8) (.cond (.tmp 28) (.seq (rgF fn 9) .ret) .skip))) (rgF fn 10)))
def wordC (fn:Func):Code := .seq (rgF fn 0) (.seq (.seq (rgF fn 1) (.cond (.tmp 13) (.seq (rgF fn 2) .ret) .skip)) (.seq (rgF fn 3) (.seq (.seq (rgF fn 4) (.block 0 (.loop (.seq (rgF fn 5) (.seq (.cond (.tmp 19) .skip (.exit 0)) (bodyC fn)))))) (.seq (rgF fn 11) .ret))))
theorem body71:Tryd.f71.body=some (wordC Tryd.f71):=by kernel_rfl
def dk71:List Nat:=[8,9,10,18,19,20,21,22,23,24,25,26,27,28,29,30]
def A71 (a:List Lett) (s:ByteArray):St:=stOf 33 [] [(0,lettsV a),(1,st s),(4,bo false)] []
def B71 (a:List Lett) (s:ByteArray):St:=stOf 33 [] [(0,lettsV a),(1,st s),(4,bo false),(11,st s),(12,bo true),(13,bo false)] []
def C71 (a:List Lett) (s:ByteArray) (M:List (AV × AV)):St:=stOf 33 [] [(0,lettsV a),(1,st s),(4,bo false),(5,.map 0),(6,i6 0),(11,st s),(12,bo true),(13,bo false),(14,lettsV a),(15,.map 0)] [.mapo M]
def D71 (a:List Lett) (s:ByteArray) (M:List (AV × AV)):St:=stOf 33 [] [(0,lettsV a),(1,st s),(4,bo false),(5,.map 0),(6,i6 0),(11,st s),(12,bo true),(13,bo false),(14,lettsV a),(15,.map 0),(16,st s)] [.mapo M]
def F71 (a:List Lett) (s:ByteArray) (M:List (AV × AV)) (n:Int) (r:Nat):St:=stOf 33 dk71 [(0,lettsV a),(1,st s),(4,bo false),(5,.map 0),(6,i6 n),(11,st s),(12,bo true),(13,bo false),(14,lettsV a),(15,.map 0),(16,st s),(17,ptrV r)] [.mapo M]
def G71 (a:List Lett) (s:ByteArray) (M:List (AV × AV)) (n:Int) (r:Nat) (p:Nat) (z:Int):St:=⟨setN (setN (F71 a s M n r).tmps 18 (.tup [bo true,i6 p,i3 z])) 19 (bo true),(F71 a s M n r).st⟩
section
variable {X:Ext} {call:Caller} {lf:Nat}
theorem r71_0 (a:List Lett) (s:ByteArray):vexec Tryd.prog X call lf 0 noFg (rgF Tryd.f71 0) (stOf 33 [] [(0,lettsV a),(1,st s)] [])=some (.normal,A71 a s):=by show _=_; kernel_rfl
theorem r71_1 (a:List Lett) (s:ByteArray) (h:callv X call false 93 [st s] [] 0=some (bo true,[])):vexec Tryd.prog X call lf 0 noFg (.seq (rgF Tryd.f71 1) (.cond (.tmp 13) (.seq (rgF Tryd.f71 2) .ret) .skip)) (A71 a s)=some (.normal,B71 a s) :=
  around_sound (ans:=[(2,Ans.v (bo true))]) (by kernel_rfl) (And.intro h trivial)
theorem r71_3 (a:List Lett) (s:ByteArray) (M:List (AV × AV)) (h:callv X call false 92 [lettsV a] [] 0=some (.map 0,[.mapo M])):vexec Tryd.prog X call lf 0 noFg (rgF Tryd.f71 3) (B71 a s)=some (.normal,C71 a s M) :=
  around_sound (ans:=[(2,Ans.c (.map 0) [.mapo M])]) (by kernel_rfl) (And.intro h trivial)
theorem r71_bt (a:List Lett) (s:ByteArray) (M:List (AV × AV)) (n:Int) (r p:Nat) (z q:Int) (h:keep [.mapo M] (lookupv Tryd.prog 110 [.mapo M] (.map 0) (i3 z) true)=some (.tup [i6 q,bo true],[.mapo M])) :
    ∃ T,vexec Tryd.prog X call lf 0 noFg (bodyC Tryd.f71) (G71 a s M n r p z)=some (.normal,T)∧forget dk71 T=F71 a s M (w6 (n + 1)) r :=
  ⟨stOf 33 [] [(0,lettsV a),(1,st s),(5,.map 0),(11,st s),(12,bo true),(13,bo false),(14,lettsV a),(15,.map 0),(16,st s),(17,ptrV r),(4,bo false),(6,i6 (w6 (n + 1))),(8,i3 z),(9,i6 q),(10,bo true),(18,.tup [bo true,i6 p,i3 z]),(19,bo true),(20,i3 z),(21,.tup [i6 q,bo true]),(22,.map 0),(23,i3 z),(24,.tup [i6 q,bo true]),(25,i6 q),(26,bo true),(27,bo true),(28,bo false),(29,i6 n),(30,i6 (w6 (n + 1)))] [.mapo M],around_sound (ans:=[(6,Ans.v (.tup [i6 q,bo true]))]) (by kernel_rfl) (And.intro h trivial),by show _=_; kernel_rfl⟩
theorem r71_bf (a:List Lett) (s:ByteArray) (M:List (AV × AV)) (n:Int) (r p:Nat) (z q:Int) (h:keep [.mapo M] (lookupv Tryd.prog 110 [.mapo M] (.map 0) (i3 z) true)=some (.tup [i6 q,bo false],[.mapo M])) :
    ∃ T,vexec Tryd.prog X call lf 0 noFg (bodyC Tryd.f71) (G71 a s M n r p z)=some (.ret,T)∧nth T.tmps 4=bo false :=
  ⟨stOf 33 [29,30] [(0,lettsV a),(1,st s),(5,.map 0),(11,st s),(12,bo true),(13,bo false),(14,lettsV a),(15,.map 0),(16,st s),(17,ptrV r),(4,bo false),(6,i6 n),(8,i3 z),(9,i6 q),(10,bo false),(18,.tup [bo true,i6 p,i3 z]),(19,bo true),(20,i3 z),(21,.tup [i6 q,bo false]),(22,.map 0),(23,i3 z),(24,.tup [i6 q,bo false]),(25,i6 q),(26,bo false),(27,bo false),(28,bo true)] [.mapo M],around_sound (ans:=[(6,Ans.v (.tup [i6 q,bo false]))]) (by kernel_rfl) (And.intro h trivial),by show _=_; kernel_rfl⟩
theorem r71_11 (a:List Lett) (s:ByteArray) (M:List (AV × AV)) (n:Int) (r:Nat) :
    ∃ T,vexec Tryd.prog X call lf 0 noFg (.seq (rgF Tryd.f71 11) .ret) ⟨setN (setN (F71 a s M n r).tmps 18 (.tup [bo false])) 19 (bo false),(F71 a s M n r).st⟩=some (.ret,T)∧nth T.tmps 4=bo (decide (n ≤ 40)) :=
  ⟨stOf 33 [8,9,10,20,21,22,23,24,25,26,27,28,29,30] [(0,lettsV a),(1,st s),(5,.map 0),(11,st s),(12,bo true),(13,bo false),(14,lettsV a),(15,.map 0),(16,st s),(17,ptrV r),(4,bo (decide (n ≤ 40))),(6,i6 n),(18,.tup [bo false]),(19,bo false),(31,i6 n),(32,bo (decide (n ≤ 40)))] [.mapo M],by show _=_; kernel_rfl,by show _=_; kernel_rfl⟩
theorem ops71_4:(opsF Tryd.f71 4).toList=[opF Tryd.f71 4 0] ++ [opF Tryd.f71 4 1]:=by kernel_rfl
theorem ops71_5:(opsF Tryd.f71 5).toList=[opF Tryd.f71 5 0,opF Tryd.f71 5 1]:=by kernel_rfl
theorem f71_bad (a:List Lett) (s:ByteArray) (h:callv X call false 93 [st s] [] 0=some (bo false,[])):vbody Tryd.prog X call lf noFg Tryd.f71 (codeOf Tryd.f71) [lettsV a,st s] [] 0=some (bo false,[]) :=
  along_sound (ans:=[(4,Ans.v (bo false))]) (by kernel_rfl) (And.intro h trivial)
end
section
variable [Fixed] {X:Ext}
theorem run71 (hX:ExtOk Tryd.prog X) {call:Caller} (hC:CallOk Tryd.prog call) (a:List Lett) (s:ByteArray) (hs:s.size ≤ big) :
    RunAt Tryd.prog X call 0 [] (opsF Tryd.f71 4) (opsF Tryd.f71 5) (bodyC Tryd.f71) 19 (C71 a s (mapR (idxR a a.length))) s dk71 (fun k r => F71 a s (mapR (idxR a a.length)) k r) 18 (fun k => ∀ j, j < k → okK a s j)
      (fun T=>nth T.tmps 4=bo false∧∃ k,(∀ j,j < k→okK a s j)∧posR s k < s.size∧hasR a (rnS s k)=false):=by
  generalize hM:mapR (idxR a a.length)=M
  refine ⟨⟨[opF Tryd.f71 4 0],opF Tryd.f71 4 1,9,.tmp 16,D71 a s M,17,opF Tryd.f71 5 0,opF Tryd.f71 5 1,ops71_4,?_,by kernel_rfl,by kernel_rfl,by kernel_rfl,Tryd.underlying9,?_,ops71_5,by kernel_rfl,by kernel_rfl,by kernel_rfl,by kernel_rfl,by kernel_rfl,by kernel_rfl,?_,?_,?_⟩,fun j hj=>absurd hj (Nat.not_lt_zero _),?_⟩
  · show _=_; kernel_rfl
  · show _=_; kernel_rfl
  · intro r; show _=_; kernel_rfl
  · intro k r; show _=_; kernel_rfl
  · intro k r
    have:(F71 a s M k r).tmps.length=33:=by show _=_; kernel_rfl
    exact ⟨by rw [this]; decide,by rw [this]; decide⟩
  · intro k r hI hpos
    have hk:=pos_ge s k fun j hj=>(hI j hj).1
    have hlook:=look110 (l:=idxR a a.length) (r:=rnS s k)
    rw [hM] at hlook
    cases hb:hasR a (rnS s k) with
    | true =>
      rw [show ((idxR a a.length).any fun e=>e.1 == rnS s k)=true from hb] at hlook
      obtain ⟨T,h1,h2⟩:=r71_bt (X:=X) (call:=call) (lf:=0) a s M (k:Int) r (posR s k) (rnS s k) _ hlook
      refine (SR.exec hX hC (lf:=0) (fg:=noFg) (by kernel_rfl) h1).mono ?_
      rintro x T' ⟨rfl,rfl⟩
      refine .inl ⟨rfl,fun j hj => ?_,?_⟩
      · by_cases e : j = k
        · subst e; exact ⟨hpos,hb⟩
        · exact hI j (by omega)
      · rw [h2,← up (i:=k) (n:=s.size) (by omega) hs]
    | false =>
      rw [show ((idxR a a.length).any fun e=>e.1 == rnS s k)=false from hb] at hlook
      obtain ⟨T,h1,h2⟩:=r71_bf (X:=X) (call:=call) (lf:=0) a s M (k:Int) r (posR s k) (rnS s k) _ hlook
      refine (SR.exec hX hC (lf:=0) (fg:=noFg) (by kernel_rfl) h1).mono ?_
      rintro x T' ⟨rfl,rfl⟩
      exact .inr ⟨rfl,h2,k,hI,hpos,hb⟩
theorem vend71 (T:St) (b:Bool) (h:nth T.tmps 4=bo b):vend Tryd.prog Tryd.f71 [] 0 T=some (bo b,T.st):=by
  have hr:resultsv Tryd.prog T Tryd.f71.results.toList=some [nth T.tmps 4]:=by kernel_rfl
  unfold vend
  rw [hr,h]
  exact vend1_plain rfl
/-- alphabet.IsWord. -/
theorem call71 (hX:ExtOk Tryd.prog X) (hM:XV X) {a:List Lett} {s:ByteArray} (hl:a.length ≤ big) (hs:s.size ≤ big):CallAt Tryd.prog 71 [aTs.enc a,aS.enc s] [] 0 (aB.enc (isWordF a s)) []:=by
  have hL:=hM.toXM.toXL
  have hC:=vcallL_ok hX (SpecOk.none' (P:=Tryd.prog)) (a.length + 1) 1
  have h93 : ∀ b, Lib.validD s.data.toList = b → callv X (vcallL Tryd.prog X (fun _ _ => none) (a.length + 1) 1) false 93 [st s] [] 0 = some (bo b, []) := fun b hb => by
    refine call_pure hM.valid rfl rfl rfl ?_
    unfold validFn
    have hs' : s.size ≤ 140737488355328:=hs
    rw [← hb]
    exact if_pos (by omega)
  unfold isWordF
  cases hv:Lib.validD s.data.toList with
  | false=>exact run_res (B:=aB) hX hC (hL.dom 71 rfl rfl) Tryd.func71 (by kernel_rfl) (f71_bad (lf:=0) a s (h93 false hv)) rfl
  | true =>
    rw [Bool.true_and]
    refine call_rel (B:=aB) (fn:=Tryd.f71) (c:=wordC Tryd.f71) (R:=fun x T=>x = .ret∧nth T.tmps 4=bo (wordW a s (s.size + 1) 0)) Tryd.func71 body71 (of_decide_eq_false (by kernel_rfl)) ?_ ?_
    · refine SR.seq (SR.exec hX hC (lf := 0) (fg := noFg) (by kernel_rfl) (r71_0 a s)) (fun T hT => ?_) (fun z T hz hh => absurd hh.1 hz)
      obtain ⟨-,rfl⟩:=hT
      refine SR.seq (SR.exec hX hC (lf:=0) (fg:=noFg) (by kernel_rfl) (r71_1 a s (h93 true hv))) (fun T hT => ?_) (fun z T hz hh=>absurd hh.1 hz)
      obtain ⟨-,rfl⟩:=hT
      refine SR.seq (SR.exec hX hC (lf:=0) (fg:=noFg) (by kernel_rfl) (r71_3 a s _ (idx_call hL hl (Nat.lt_succ_self _) rfl))) (fun T hT => ?_) (fun z T hz hh=>absurd hh.1 hz)
      obtain ⟨-,rfl⟩:=hT
      refine SR.seq (SR.rangeS hX hC (run71 hX hC a s hs)) (fun T hT => ?_) (fun z T hz hh => ?_)
      · rcases hT with ⟨-, k, r, hI, hpos, rfl⟩ | ⟨h, -⟩
        · obtain ⟨T', h1, h2⟩ := r71_11 (X := X) (call := vcallL Tryd.prog X (fun _ _ => none) (a.length + 1) 1) (lf := 0) a s (mapR (idxR a a.length)) (k : Int) r
          refine (SR.exec hX hC (lf:=0) (fg:=noFg) (by kernel_rfl) h1).mono ?_
          rintro x T'' ⟨rfl,rfl⟩
          exact ⟨rfl,by rw [h2,word_end hI hpos]⟩
        · cases h
      · rcases hh with ⟨h, -⟩ | ⟨rfl, h4, k, hI, hpos, hb⟩
        · exact absurd h hz
        · exact ⟨rfl,by rw [h4,word_bad hI hpos hb]⟩
    · rintro x T ⟨rfl, h4⟩
      exact ⟨.inr rfl,bo _,T.st,vend71 T _ h4,rfl⟩
end
end Go.Proofs.Lex
end
/- Lexicon: Merge told; the law. -/
section
open Go Go.Vm Go.Proofs
namespace Go.Proofs.Lex
section
variable [Fixed] {X:Ext}
theorem put58e (c:ByteArray) (l:List ByteArray):unit1 (mapUpdatev Tryd.prog 58 [.mapo (esOf l)] 0 (.map 0) (st c) (bo true))=some (.undef,[.mapo (esOf (putS l c))]):=put58 c l
theorem w6sum {a b:Nat} (h:(a + b) * 89 ≤ 140737488355328):w6 ((a:Int) + (b:Int))=((a + b:Nat):Int):=by
  unfold w6
  rw [IntKind.wrap_i64]
  omega
theorem bsl_two (A B:List Lexm) (σ:List Ob):bsl Tryd.prog 104 2 σ false 0 [(0,lexsV A),(1,lexsV B)]=some (.list .clip 2 1 [lexsV A,lexsV B],σ):=by
  unfold bsl byValue
  have hA:AV.owns (lexsV A)=[]:=owns_lexs A
  have hB:AV.owns (lexsV B)=[]:=owns_lexs B
  simp only [List.map_cons,List.map_nil,AV.ownsAll,hA,hB,List.append_nil,if_true]
  show _=_
  kernel_rfl
/-- lexicon.Merge. -/
theorem call36 (hX:ExtOk Tryd.prog X) (hL:XL X) {A B:List Lexm} (hA:okLs A) (hB:okLs B) (hb:(A.length + B.length) * 89 ≤ big):CallAt Tryd.prog 36 [aLs.enc A,aLs.enc B] [] 0 (aLsE.enc (mergeF A B)) []:=by
  have hb' : (A.length + B.length) * 89 ≤ 140737488355328:=hb
  have hC:=vcallL_ok hX (TM_ok hX hL) (A.length + B.length + 1) 1
  let call:=vcallL Tryd.prog X TM (A.length + B.length + 1) 1
  let lf:=A.length + B.length + 1
  let K:=idsN [] A A.length
  let S0:Nat→List Ob:=fun i=>[.mapo (esOf (idsN [] A i))]
  let S1:Nat→List Ob:=fun i=>[.mapo (esOf (idsN K B i))]
  have ltA:∀ {i:Nat},decide ((i:Int) < (A.length:Int))=true→i < A.length:=fun h=>by have:=of_decide_eq_true h; omega
  have ltB:∀ {i:Nat},decide ((i:Int) < (B.length:Int))=true→i < B.length:=fun h=>by have:=of_decide_eq_true h; omega
  have l0 : vexec Tryd.prog X call lf 0 fg36 (.loop (loopN Tryd.f36 0)) (f36_S0 A B) = some (.exit 0, f36_S1 A B S0 A.length) := by
    refine f36_L0 A B S0 X call lf A.length _ _ rfl (by show _ < A.length + B.length + 1; omega) (fun j hj => ?_) ?_ (by simp)
    · exact (f36_B0 A B X call lf S0 j (nL A j).id (nL A j).cat (nL A j).stem (nL A j).par (nL A j).feats.length ((nL A j).feats.flatMap featC) (tL A j) (S0 (j + 1)) (fun h=>at_lex (ltA h)) (fun _=>put58e _ _) (fun _=>up hj (by show _ ≤ 140737488355328; omega)) (fun _=>rfl)).1 (by unfold f36_o0; rw [decide_eq_true (by omega)])
    · exact f36_r0_f A B X call lf S0 A.length (decide_eq_false (by omega))
  have step : ∀ j, j < B.length → badM A B j = false → ∃ Sx, vexec Tryd.prog X call lf 0 fg36 (loopN Tryd.f36 1) (f36_F1 A B A.length S1 j) = some (.normal, Sx) ∧ forget f36_D1 Sx = f36_F1 A B A.length S1 (j + 1) := by
    intro j hj hbad
    exact (f36_B1 A B X call lf A.length S1 j (nL B j).id (nL B j).cat (nL B j).stem (nL B j).par (nL B j).feats.length ((nL B j).feats.flatMap featC) (tL B j) (S1 (j + 1)) (badM A B j) (fun h=>at_lex (ltB h)) (fun _=>look58 _ _) (fun _ _=>put58e _ _) (fun _=>up hj (by show _ ≤ 140737488355328; omega)) (fun _=>rfl)).1 (by unfold f36_o1; rw [decide_eq_true (by omega),hbad])
  rcases first_fail (p:=fun i=>badM A B i=false) B.length with hall | ⟨j,hj,hbad,hbef⟩
  · have l1 : vexec Tryd.prog X call lf 0 fg36 (.loop (loopN Tryd.f36 1)) (f36_S2 A B S0 A.length) = some (.exit 2, f36_S4 A B A.length S1 B.length) := by
      refine f36_L1 A B S0 A.length S1 X call lf B.length _ _ rfl (by show _ < A.length + B.length + 1; omega) (fun j hj=>step j hj (hall j hj)) ?_ (by simp)
      exact f36_r1_f A B X call lf A.length S1 B.length (decide_eq_false (by omega))
    have hno : ¬ ∃ i,i < B.length∧badM A B i=true:=fun ⟨i,hi,h⟩=>by rw [hall i hi] at h; cases h
    have hAB : okLs (A ++ B) := ⟨by rw [List.length_append]; exact hb, fun x hx => by
      rcases List.mem_append.1 hx with h | h
      · exact hA.2 x h
      · exact hB.2 x h⟩
    obtain ⟨v,hv,hd,ho⟩:=cv40 (X:=X) (lf:=A.length + B.length + 1) hL hAB (by rw [List.length_append]; omega) (S1 B.length)
    obtain ⟨r,he,hr⟩:=endV2 (σ:=S1 B.length) (n:=0) hd ho
    have P:=f36_P1 A B X call lf S0 A.length S1 B.length v 2 [lexsV A,lexsV B] .clip (A ++ B).length ((A ++ B).flatMap lexC) r _ l0 l1 (fun _ => ?_) (fun _ => ?_) (fun _=>hv) (fun _=>he)
    · unfold mergeF
      rw [if_neg hno]
      by_cases hbig:256 < A.length + B.length
      · rw [if_pos hbig]
        exact run_res (B:=aLsE) hX hC (hL.dom 36 rfl rfl) Tryd.func36 (by kernel_rfl) (P.1 (by unfold f36_q1; rw [w6sum hb',decide_eq_true (by omega)])) (by rfl)
      · rw [if_neg hbig]
        exact run_res (B:=aLsE) hX hC (hL.dom 36 rfl rfl) Tryd.func36 (by kernel_rfl) (P.2 (by unfold f36_q1; rw [w6sum hb',decide_eq_false (by omega)])) hr
    · exact bsl_two A B _
    · obtain ⟨a1, a2, a3⟩ := hL.ok 68 rfl
      refine call_onL (B:=aLs) (y:=A ++ B) (vs:=[.list .clip 2 1 [lexsV A,lexsV B]]) a1 a2 a3 ?_ ?_
      · show (AV.ltAll 0 [aLs.enc A, aLs.enc B] && true) = true
        simp only [AV.ltAll,aLs.lt,Bool.and_self]
      · show sp1 aLss _ [AV.list .clip 2 1 [lexsV A, lexsV B]] = _
        have hde:aLss.dec (.list .clip 2 1 [lexsV A,lexsV B])=some [A,B]:=aLss.de [A,B]
        rw [sp1_at hde]
        show (if (A.length + B.length) * 89 ≤ big then some (aLs.enc (A ++ B)) else none)=_
        rw [if_pos hb]
  · have hbad' : badM A B j = true := by simpa using hbad
    have l1 : vexec Tryd.prog X call lf 0 fg36 (.loop (loopN Tryd.f36 1)) (f36_S2 A B S0 A.length) = some (.ret, f36_S3 A B A.length S1 j (nL B j).id (nL B j).cat (nL B j).stem (nL B j).par (nL B j).feats.length ((nL B j).feats.flatMap featC) (tL B j)) := by
      refine f36_L1 A B S0 A.length S1 X call lf j _ _ rfl (by show _ < A.length + B.length + 1; omega) (fun i hi=>step i (by omega) (hbef i hi)) ?_ (by simp)
      exact (f36_B1 A B X call lf A.length S1 j (nL B j).id (nL B j).cat (nL B j).stem (nL B j).par (nL B j).feats.length ((nL B j).feats.flatMap featC) (tL B j) (S1 (j + 1)) (badM A B j) (fun h=>at_lex (ltB h)) (fun _=>look58 _ _) (fun _ _=>put58e _ _) (fun _=>up hj (by show _ ≤ 140737488355328; omega)) (fun _=>rfl)).2.1 (by unfold f36_o1; rw [decide_eq_true (by omega),hbad'])
    unfold mergeF
    rw [if_pos ⟨j,hj,hbad'⟩]
    exact run_res (B:=aLsE) hX hC (hL.dom 36 rfl rfl) Tryd.func36 (by kernel_rfl) (f36_plfltt A B X call lf S0 A.length S1 j _ _ _ _ _ _ _ l0 l1) (by rfl)
end
end Go.Proofs.Lex
end
/- Lexicon: the small functions of the reference: a field, a word, a byte's place. -/
section
open Go Go.Vm Go.Proofs
namespace Go.Proofs.Lex
section
variable {X:Ext} {call:Caller} {lf:Nat}
end
section
variable [Fixed] {X:Ext}
end
end Go.Proofs.Lex
end
/- Lexicon: the reference texts, walked (printed) -/
section
open Go Go.Vm Go.Proofs
namespace Go.Proofs.Lex
end Go.Proofs.Lex
end
/- Lexicon: the reference's text of a record. -/
section
open Go Go.Vm Go.Proofs
namespace Go.Proofs.Lex
section
variable {X:Ext} {call:Caller} {lf:Nat}
end
section
variable [Fixed] {X:Ext}
end
end Go.Proofs.Lex
end
/- Lexicon: where the parts of a text lie; its parts cut at the equals sign. -/
section
open Go Go.Vm Go.Proofs
namespace Go.Proofs.Lex
end Go.Proofs.Lex
end
/- Lexicon: the reference's Parse of a record. -/
section
open Go Go.Vm Go.Proofs
namespace Go.Proofs.Lex
/-! ### the parts' text -/
/-! ### the record of a text -/
end Go.Proofs.Lex
end
/- Lexicon: the reference's Parse of a record, walked. -/
section
open Go Go.Vm Go.Proofs
namespace Go.Proofs.Lex
section
variable [Fixed] {X:Ext}
def okX (F:List Feat):Prop:=F.length ≤ big∧(textF F).length ≤ big
instance:DecidablePred okX:=fun F=>inferInstanceAs (Decidable (_∧_))
theorem emp_test {s:ByteArray} (h:s ≠ emp):(!s.toList == (ByteArray.mk #[]).toList)=true:=by
  rw [show (s.toList == (ByteArray.mk #[]).toList)=false from eqB_ne.2 h]
  rfl
theorem eq_test {s t:ByteArray} (h:s=t):(!s.toList == t.toList)=false:=by
  rw [show (s.toList == t.toList)=true from eqB_iff.2 h]
  rfl
end
end Go.Proofs.Lex
end
/- Lexicon: Valid, told. -/
section
open Go Go.Vm Go.Proofs
namespace Go.Proofs.Lex
/-- A lexeme over an alphabet, but for its ID's being new. -/
def lexO (a:List Lett) (x:Lexm):Bool:=nameL x.id && (nameL x.cat && ((decide (x.par=emp) || nameL x.par) && (isWordF a x.stem && validF x.feats)))
def idsV (L:List Lexm) (i:Nat):List ByteArray:=(L.take i).map (·.id)
def seenI (L:List Lexm) (i:Nat):Bool:=(idsV L i).any fun y=>decide (y=(nL L i).id)
def okI (a:List Lett) (L:List Lexm) (i:Nat):Bool := !seenI L i && lexO a (nL L i)
/-- What lexicon.Valid says. -/
def validLex (a:List Lett) (L:List Lexm):Bool:=alphaF a && (decide (L.length ≤ 256) && (List.range L.length).all (okI a L))
theorem ids_es (L:List Lexm) (i:Nat):idsR L i=esOf (idsV L i):=by
  unfold idsR esOf idsV
  rw [List.map_map]
  rfl
theorem ids_next {L:List Lexm} {i:Nat} (h:i < L.length) (hs:seenI L i=false):idsR L (i + 1)=esOf (putS (idsV L i) (nL L i).id):=by
  rw [ids_es]
  unfold putS
  rw [if_neg (by rw [show (idsV L i).any (fun x=>decide (x=(nL L i).id))=false from hs]; simp)]
  congr 1
  unfold idsV
  rw [List.take_succ_eq_append_getElem h,List.map_append,nL,getD_lt h]
  rfl
/-- Sizes that a machine bears. -/
structure okV (x:Lexm):Prop where
  id:okS x.id
  cat:okS x.cat
  stem:okS x.stem
  par:okS x.par
  feats:okF x.feats
section
variable [Fixed] {X:Ext}
/-- What lexicon.Valid asks. -/
def V38:Go.Vm.Spec:=(((Go.Vm.Spec.on (fun _ _=>none) 43 (s1 aS aB nameL okS)).on 45 (s1 aFs aB validF okF)).on 70 (s1 aTs aB alphaF fun a=>a.length ≤ big)).on 71 (sp2 aTs aS fun a s=>if a.length ≤ big∧s.size ≤ big then some (aB.enc (isWordF a s)) else none)
theorem V38_ok (hX:ExtOk Tryd.prog X) (hM:XV X):SpecOk Tryd.prog V38:=by
  have hL:=hM.toXM.toXL
  refine SpecOk.on2 (SpecOk.s1 (SpecOk.s1 (SpecOk.s1 SpecOk.none' fun s h=>call43 hX hL h) fun F h=>call45 hX hL h) fun a h=>call70 hX hL h) fun a s r h => ?_
  split at h
  · rename_i hh
    simp only [Option.some.injEq] at h
    subst h
    exact call71 hX hM hh.1 hh.2
  · cases h
theorem x43 (hL:XL X) {s:ByteArray} (h:okS s) (σ:List Ob):callv X (callerOf V38) false 43 [st s] σ 0=some (bo (nameL s),σ):=by
  obtain ⟨a1,a2,a3⟩:=hL.ok 43 rfl
  exact call_on (B:=aB) (T:=V38) (y:=nameL s) (vs:=[aS.enc s]) a1 a2 a3 rfl (s1_at (A:=aS) (B:=aB) (g:=nameL) (ok:=okS) h)
theorem x45 (hL:XL X) {F:List Feat} (h:okF F) (σ:List Ob):callv X (callerOf V38) false 45 [featsV F] σ 0=some (bo (validF F),σ):=by
  obtain ⟨a1,a2,a3⟩:=hL.ok 45 rfl
  exact call_on (B:=aB) (T:=V38) (y:=validF F) (vs:=[aFs.enc F]) a1 a2 a3 (by simp only [AV.ltAll,aFs.lt,Bool.and_self]) (s1_at (A:=aFs) (B:=aB) (g:=validF) (ok:=okF) h)
theorem x70 (hL:XL X) {a:List Lett} (h:a.length ≤ big) (σ:List Ob):callv X (callerOf V38) false 70 [lettsV a] σ 0=some (bo (alphaF a),σ):=by
  obtain ⟨a1,a2,a3⟩:=hL.ok 70 rfl
  exact call_on (B:=aB) (T:=V38) (y:=alphaF a) (vs:=[aTs.enc a]) a1 a2 a3 (by simp only [AV.ltAll,aTs.lt,Bool.and_self]) (s1_at (A:=aTs) (B:=aB) (g:=alphaF) (ok:=fun a=>a.length ≤ big) h)
theorem x71 (hL:XL X) {a:List Lett} {s:ByteArray} (h:a.length ≤ big) (hs:s.size ≤ big) (σ:List Ob):callv X (callerOf V38) false 71 [lettsV a,st s] σ 0=some (bo (isWordF a s),σ):=by
  obtain ⟨a1,a2,a3⟩:=hL.ok 71 rfl
  refine call_on (B:=aB) (T:=V38) (y:=isWordF a s) (vs:=[aTs.enc a,aS.enc s]) a1 a2 a3 (by simp only [AV.ltAll,aTs.lt,aS.lt,Bool.and_self]) ?_
  show sp2 aTs aS (fun a s=>if a.length ≤ big∧s.size ≤ big then some (aB.enc (isWordF a s)) else none) [aTs.enc a,aS.enc s]=_
  rw [sp2_at (aTs.de _) (aS.de _),if_pos ⟨h,hs⟩]
/-- lexicon.Valid. -/
theorem call38 (hX:ExtOk Tryd.prog X) (hM:XV X) {a:List Lett} {L:List Lexm} (ha:a.length ≤ big) (hl:L.length ≤ big) (hok:∀ x ∈ L,okV x):CallAt Tryd.prog 38 [aTs.enc a,aLs.enc L] [] 0 (aB.enc (validLex a L)) []:=by
  have hL:=hM.toXM.toXL
  have hC:=callerOf_ok (V38_ok hX hM)
  have hb:Tryd.f38.body=some (codeOf Tryd.f38):=by kernel_rfl
  have c70:=x70 (X:=X) hL ha []
  cases hal:alphaF a with
  | false =>
    rw [hal] at c70
    have:validLex a L=false:=by unfold validLex; rw [hal]; rfl
    rw [this]
    exact run_res (B:=aB) hX hC (hL.dom 38 rfl rfl) Tryd.func38 hb (f38_pf a L X _ 0 c70) rfl
  | true =>
    rw [hal] at c70
    by_cases h256:(L.length:Int) > 256
    · have : validLex a L = false := by unfold validLex; rw [hal, decide_eq_false (by omega)]; rfl
      rw [this]
      exact run_res (B:=aB) hX hC (hL.dom 38 rfl rfl) Tryd.func38 hb (f38_ptt a L X _ 0 c70 (decide_eq_true h256)) rfl
    have hbase:validLex a L=(List.range L.length).all (okI a L):=by unfold validLex; rw [hal,decide_eq_true (show L.length ≤ 256 by omega)]; rfl
    have lt:∀ {i:Nat},decide ((i:Int) < (L.length:Int))=true→i < L.length:=fun h=>by have:=of_decide_eq_true h; omega
    have ok:∀ {i:Nat},i < L.length→okV (nL L i):=fun {i} h=>hok _ (by rw [nL,getD_lt h]; exact List.getElem_mem h)
    have M := fun n hn hz => f38_M a L X (callerOf V38) (L.length + 1) n (fun i => (nL L i).id) (fun i => (nL L i).cat) (fun i => (nL L i).stem) (fun i => (nL L i).par) (fun i => (nL L i).feats.length) (fun i => (nL L i).feats.flatMap featC) (fun i => tL L i)
      (fun i=>[.mapo (esOf (putS (idsV L i) (nL L i).id))]) (fun i=>[.mapo (esOf (putS (idsV L i) (nL L i).id))]) (fun i=>seenI L i) (fun i=>nameL (nL L i).id) (fun i=>nameL (nL L i).cat) (fun i=>nameL (nL L i).par) (fun i=>isWordF a (nL L i).stem) (fun i=>validF (nL L i).feats) (fun i=>isWordF a (nL L i).stem) (fun i=>validF (nL L i).feats) hn
      (fun i _ h=>at_lex (lt h)) (fun i _ h=>by rw [ids_es]; exact look58 _ _) (fun i _ h _=>x43 hL (ok (lt h)).id _) (fun i _ h _ _=>x43 hL (ok (lt h)).cat _) (fun i _ h _ _ _ _=>x43 hL (ok (lt h)).par _)
      (fun i _ h _ _ _ _ _=>x71 hL ha (ok (lt h)).stem _) (fun i _ h _ _ _ _ _ _=>x45 hL (ok (lt h)).feats _) (fun i _ h _ _ _ _ _ _ _=>by rw [ids_es]; exact put58e _ _)
      (fun i _ h _ _ _ _=>x71 hL ha (ok (lt h)).stem _) (fun i _ h _ _ _ _ _=>x45 hL (ok (lt h)).feats _) (fun i _ h _ _ _ _ _ _=>by rw [ids_es]; exact put58e _ _)
      (fun i _ h=>up (lt h) hl) (fun i _ h hs _ _ _ _ _ _=>by rw [ids_next (lt h) hs]) (fun i _ h hs _ _ _ _ _=>by rw [ids_next (lt h) hs]) hz
    have ho : ∀ j, j < L.length → f38_o0 L j (nL L j).par (seenI L j) (nameL (nL L j).id) (nameL (nL L j).cat) (nameL (nL L j).par) (isWordF a (nL L j).stem) (validF (nL L j).feats) (isWordF a (nL L j).stem) (validF (nL L j).feats) = if okI a L j then 0 else 1 := fun j hj => by
      unfold f38_o0 okI lexO
      rw [decide_eq_true (by omega)]
      by_cases e:(nL L j).par=emp
      · rw [show (!(nL L j).par.toList == (ByteArray.mk #[]).toList) = false from eq_test e, decide_eq_true e]
        cases seenI L j <;> cases nameL (nL L j).id <;> cases nameL (nL L j).cat <;> cases isWordF a (nL L j).stem <;> cases validF (nL L j).feats <;> rfl
      · rw [show (!(nL L j).par.toList == (ByteArray.mk #[]).toList) = true from emp_test e, decide_eq_false e]
        cases seenI L j <;> cases nameL (nL L j).id <;> cases nameL (nL L j).cat <;> cases nameL (nL L j).par <;> cases isWordF a (nL L j).stem <;> cases validF (nL L j).feats <;> rfl
    rcases first_fail (p:=fun j=>okI a L j=true) L.length with hall | ⟨k,hk,hbad,hbef⟩
    · have hv : validLex a L = true := by rw [hbase, List.all_eq_true]; exact fun j hj => hall j (List.mem_range.1 hj)
      rw [hv]
      have m:=M L.length (Nat.lt_succ_self _) fun j hj=>by rw [ho j hj,if_pos (hall j hj)]
      have h2 : f38_o0 L L.length (nL L L.length).par (seenI L L.length) (nameL (nL L L.length).id) (nameL (nL L L.length).cat) (nameL (nL L L.length).par) (isWordF a (nL L L.length).stem) (validF (nL L L.length).feats) (isWordF a (nL L L.length).stem) (validF (nL L L.length).feats) = 2 := by
        unfold f38_o0
        rw [decide_eq_false (by omega)]
      exact run_res (B:=aB) hX hC (hL.dom 38 rfl rfl) Tryd.func38 hb (m.2.2.2.2.2.2.2.2 h2 c70 (decide_eq_false h256)) rfl
    · have hv : validLex a L = false := by
        rw [hbase,Bool.eq_false_iff]
        intro hc
        exact hbad (List.all_eq_true.1 hc k (List.mem_range.2 hk))
      rw [hv]
      have m:=M k (by omega) fun j hj=>by rw [ho j (by omega),if_pos (hbef j hj)]
      exact run_res (B:=aB) hX hC (hL.dom 38 rfl rfl) Tryd.func38 hb (m.1 (by rw [ho k hk,if_neg hbad]) c70 (decide_eq_false h256)) rfl
end
end Go.Proofs.Lex
end
/- Lexicon: the law of what a valid lexicon finds. -/
section
open Go Go.Vm Go.Proofs
namespace Go.Proofs.Lex
section
variable [Fixed] {X:Ext}
theorem on_cond {α β:Type} {p:Prop} [Decidable p] {x r:AV} {Q:AV→Prop} (h:(if p then some x else none)=some r) (hq:p→Q x):Q r:=by
  split at h
  · rename_i hp
    simp only [Option.some.injEq] at h
    exact h ▸ hq hp
  · cases h
/-- A told call on two arguments. -/
theorem on_two {α β γ:Type} {A:Arg α} {B:Arg β} {D:Arg γ} {T:Go.Vm.Spec} {f:FuncId} {g:α→β→Option AV} {x:α} {y:β} {z:γ} (hL:XL X) (hw:lexW f=true) (hT:T f [A.enc x,B.enc y]=sp2 A B g [A.enc x,B.enc y]) (hg:g x y=some (D.enc z)) (dr:Bool) (σ:List Ob):callv X (callerOf T) dr f [A.enc x,B.enc y] σ 0=some (D.enc z,σ):=by
  obtain ⟨a1,a2,a3⟩:=hL.ok f hw
  refine call_on (B:=D) (T:=T) (y:=z) a1 a2 a3 (by simp only [AV.ltAll,A.lt,B.lt,Bool.and_self]) ?_
  rw [hT,sp2_at (A.de _) (B.de _),hg]
variable (hX:ExtOk Tryd.prog X) (hM:XV X) (h14:CallAt Tryd.prog 14 [] [] 0 (bo true) [])
include hX hM h14
end
end Go.Proofs.Lex
end
/- Lexicon: from the readings of a row to letters and numbers. -/
section
open Go Go.Vm Go.Proofs Go.Proofs.YtogacbdboplbfaaDoor
open Go.RowKit Go.ChangeShapes Go.WideShapes Go.Lib Go.Shelf
namespace Go.Proofs.Lex
abbrev tysT:List TypeId:=[3,4,5,9,21,22,25,31,33,52,57,106,108]
theorem tysT_ok:tysT.all (Go.Vm.okT Tryd.prog tysT)=true:=by kernel_rfl
theorem int_shape {B:Nat} {t:TypeId} {k:IntKind} (ht:Tryd.prog.underlying t=some (.int k)) {x:List AV} (hx:Shape Tryd.prog B t x):∃ n:Int,x=[.int k n]:=by
  cases hx with
  | int hu n hn =>
    rw [ht] at hu
    simp only [Option.some.injEq,TypeDesc.int.injEq] at hu
    subst hu
    exact ⟨n,rfl⟩
  | str hu=>rw [ht] at hu; cases hu
  | bool hu=>rw [ht] at hu; cases hu
  | slice hu=>rw [ht] at hu; cases hu
  | struct hu=>rw [ht] at hu; cases hu
theorem lett_shape {B:Nat} (x:List AV) (hx:Shape Tryd.prog B 108 x):∃ f:Lett,x=lettC f∧True:=by
  have h108:=Tryd.underlying108
  cases hx with
  | struct hu ps hl hp =>
    rw [h108] at hu
    simp only [Option.some.injEq,TypeDesc.struct.injEq] at hu
    subst hu
    match ps,hl with
    | [p0, p1], _ =>
      obtain ⟨a,rfl⟩:=int_shape Tryd.underlying21 (hp 0 _ _ rfl rfl)
      obtain ⟨b,rfl⟩:=int_shape Tryd.underlying106 (hp 1 _ _ rfl rfl)
      exact ⟨⟨a,b⟩,rfl,trivial⟩
  | int hu=>rw [h108] at hu; cases hu
  | bool hu=>rw [h108] at hu; cases hu
  | str hu=>rw [h108] at hu; cases hu
  | slice hu=>rw [h108] at hu; cases hu
theorem cells108:Tryd.prog.cellsOf 108=2:=by kernel_rfl
theorem bytes108:Tryd.prog.bytesOf 108=8:=by kernel_rfl
theorem arg_letts {B:Nat} {v:AV} (h:ArgIs Tryd.prog B 52 v):∃ a:List Lett,v=lettsV a∧a.length * 8 ≤ B:=by
  obtain ⟨l,hl,_,h2⟩:=row_shape (enc:=lettC) (Q:=fun _=>True) Tryd.underlying52 cells108 bytes108 lett_shape (h.one Tryd.underlying52 rfl)
  simp only [List.cons.injEq,and_true] at hl
  exact ⟨l,hl,h2⟩
theorem bigT_of {B n k:Nat} (hB:B ≤ big) (hk:1 ≤ k) (h:n * k ≤ B):n ≤ big:=Nat.le_trans (Nat.le_trans (Nat.le_mul_of_pos_right n hk) h) hB
theorem okV_of {B:Nat} (hB:B ≤ big) {x:Lexm} (h:LexIn B x):okV x:=by
  obtain ⟨h1,h2,h3,h4,h5,h6⟩:=h
  exact ⟨Nat.le_trans h1 hB,Nat.le_trans h2 hB,Nat.le_trans h3 hB,Nat.le_trans h4 hB,bigT_of hB (by decide) h6,fun f hf=>⟨Nat.le_trans (h5 f hf).1 hB,Nat.le_trans (h5 f hf).2 hB⟩⟩
theorem xv09 [Fixed]:XV X09:=⟨xm09,rfl⟩
end Go.Proofs.Lex
end
