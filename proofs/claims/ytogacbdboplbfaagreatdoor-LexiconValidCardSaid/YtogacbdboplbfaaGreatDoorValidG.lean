/- Part 7 of the texts of this claim: the evaluator, and what it says of the program's functions. -/
import Derived.Test.YtogacbdboplbfaaGreatDoorValidE
import Derived.Test.YtogacbdboplbfaaGreatDoorValidF
import Derived.Test.YtogacbdboplbfaaGreatDoorValidC
import Derived.Test.YtogacbdboplbfaaGreatDoorValidD
import Derived.Lib.TrimUEq
import Derived.Lib.ValidLaws
set_option linter.unusedSectionVars false
set_option linter.unusedVariables false
set_option linter.unusedSimpArgs false
set_option linter.constructorNameAsVariable false
/- Lexicon: letters; the index of their runes. -/
section
open Go Go.Vm Go.Proofs
namespace Go.Proofs.Lex
structure Lett where
  r:Int
  c:Int
  deriving DecidableEq
abbrev i3 (n:Int):AV := .int .i32 n
def lettC (x:Lett):List AV:=[.int .i32 x.r,.int .u32 x.c]
def lettsV (l:List Lett):AV := .list .ro l.length 2 (l.flatMap lettC)
def d0T:Lett:=⟨0,0⟩
abbrev nT (a:List Lett) (i:Nat):Lett:=a.getD i d0T
abbrev rT (a:List Lett) (i:Nat):List AV:=(a.flatMap lettC).drop (i * 2)
def tT (a:List Lett) (i:Nat):List AV:=(a.drop (i + 1)).flatMap lettC
theorem rT_eq {a:List Lett} {i:Nat} (h:i < a.length):rT a i=lettC (nT a i) ++ (a.drop (i + 1)).flatMap lettC:=by
  unfold rT nT
  rw [flat_drop (fun _=>rfl:∀ x,(lettC x).length=2) a i h,getD_lt h]
theorem at_lett {σ:List Ob} {lk:LK} {a:List Lett} {i:Nat} (h:i < a.length):keep σ (indexAddrv Tryz.prog 22 σ (.list lk a.length 2 (a.flatMap lettC)) (i6 (↑i:Int)))=some (.eaddr (.int .i32 (nT a i).r :: .int .u32 (nT a i).c::tT a i),σ):=by
  rw [at_rows Tryz.underlying22 (by kernel_rfl) (by kernel_rfl) h]
  rw [show (a.flatMap lettC).drop (i * 2)=rT a i from rfl,rT_eq h]
  rfl
section
variable [Fixed]
def cT:Cod Lett:=((Cod.int .i32).prod (Cod.int .u32)).iso (fun x=>⟨x.1,x.2⟩) (fun f=>(f.r,f.c)) (fun _=>rfl) (fun _=>rfl)
def aTs:Arg (List Lett):=Arg.cell cT.list rfl
def aR:Arg Int:=Arg.cell (Cod.int .i32) rfl
end
/-- Which runes have come, each with its first place. -/
def idxR (a:List Lett):Nat→List (Int × Nat)
  | 0=>[]
  | i + 1=>if (idxR a i).any (fun e=>e.1 == (nT a i).r) then idxR a i else idxR a i ++ [((nT a i).r,i)]
def entR (e:Int × Nat):AV × AV:=(i3 e.1,i6 (e.2:Int))
def mapR (l:List (Int × Nat)):List (AV × AV):=l.map entR
theorem look_E (r:Int):∀ (l:List (Int × Nat)),lookupEs (i3 r) (mapR l)=some ((l.find? fun e=>e.1 == r).map fun e=>i6 (e.2:Int))
  | []=>rfl
  | e :: l => by
    show lookupEs (i3 r) (entR e::mapR l)=_
    unfold entR lookupEs
    simp only [if_true]
    rw [List.find?_cons]
    by_cases h:r=e.1
    · subst h; simp
    · have : (e.1 == r) = false := beq_eq_false_iff_ne.2 fun x => h x.symm
      rw [if_neg h,this]
      exact look_E r l
theorem find_any (r:Int) (l:List (Int × Nat)):(l.find? fun e=>e.1 == r).isSome=l.any fun e=>e.1 == r:=by
  rw [Bool.eq_iff_iff,List.find?_isSome,List.any_eq_true]
theorem put_E {r:Int} {k:Nat}:∀ {l:List (Int × Nat)},(l.any fun e=>e.1 == r)=false→putEs (i3 r) (i6 (k:Int)) (mapR l)=some (mapR (l ++ [(r,k)]))
  | [],_=>rfl
  | e :: l, h => by
    simp only [List.any_cons,Bool.or_eq_false_iff] at h
    have hne : ¬ r=e.1:=fun x=>by rw [x] at h; simp at h
    show putEs (i3 r) (i6 (k:Int)) (entR e::mapR l)=_
    unfold entR putEs
    have : lookupEs (i3 r) [(i3 e.1, i6 (e.2 : Int))] = some none := by
      unfold lookupEs
      simp only [if_true]
      rw [if_neg hne]
      rfl
    simp only [this]
    rw [put_E h.2]
    rfl
/-- The IDs that have come. -/
def idsR (L:List Lexm) (i:Nat):List (AV × AV):=(L.take i).map fun x=>(AV.str x.id,AV.bool true)
/-- What the index says of a rune. -/
def hasR (a:List Lett) (r:Int):Bool:=(idxR a a.length).any fun e=>e.1 == r
end Go.Proofs.Lex
end
/- Lexicon: alphabets, Valid, and two laws, walked (printed) -/
section
open Go Go.Vm Go.Proofs
namespace Go.Proofs.Lex
theorem f91_ptt (n0:Int) (X:Ext) (call:Caller) (lf:Nat)
  (h0:decide (0 ≤ n0)=true)
  (h1:decide (n0 < 55296)=true):vbody Tryz.prog X call lf noFg Tryz.f35 (codeOf Tryz.f35) [AV.int IntKind.i32 n0] [] 0=some (bo true,[]) :=
  along_sound (ans:=[(4,Ans.b true),(9,Ans.b true)]) (by kernel_rfl) (ai h0 (ai h1 trivial))
theorem f91_ptftt (n0:Int) (X:Ext) (call:Caller) (lf:Nat)
  (h0:decide (0 ≤ n0)=true)
  (h1:decide (n0 < 55296)=false)
  (h2:decide (57343 < n0)=true)
  (h3:decide (n0 ≤ 1114111)=true):vbody Tryz.prog X call lf noFg Tryz.f35 (codeOf Tryz.f35) [AV.int IntKind.i32 n0] [] 0=some (bo true,[]) :=
  along_sound (ans:=[(4,Ans.b true),(9,Ans.b false),(15,Ans.b true),(20,Ans.b true)]) (by kernel_rfl) (ai h0 (ai h1 (ai h2 (ai h3 trivial))))
theorem f91_ptftf (n0:Int) (X:Ext) (call:Caller) (lf:Nat)
  (h0:decide (0 ≤ n0)=true)
  (h1:decide (n0 < 55296)=false)
  (h2:decide (57343 < n0)=true)
  (h3:decide (n0 ≤ 1114111)=false):vbody Tryz.prog X call lf noFg Tryz.f35 (codeOf Tryz.f35) [AV.int IntKind.i32 n0] [] 0=some (bo false,[]) :=
  along_sound (ans:=[(4,Ans.b true),(9,Ans.b false),(15,Ans.b true),(20,Ans.b false)]) (by kernel_rfl) (ai h0 (ai h1 (ai h2 (ai h3 trivial))))
theorem f91_ptff (n0:Int) (X:Ext) (call:Caller) (lf:Nat)
  (h0:decide (0 ≤ n0)=true)
  (h1:decide (n0 < 55296)=false)
  (h2:decide (57343 < n0)=false):vbody Tryz.prog X call lf noFg Tryz.f35 (codeOf Tryz.f35) [AV.int IntKind.i32 n0] [] 0=some (bo false,[]) :=
  along_sound (ans:=[(4,Ans.b true),(9,Ans.b false),(15,Ans.b false)]) (by kernel_rfl) (ai h0 (ai h1 (ai h2 trivial)))
theorem f91_pftt (n0:Int) (X:Ext) (call:Caller) (lf:Nat)
  (h0:decide (0 ≤ n0)=false)
  (h1:decide (57343 < n0)=true)
  (h2:decide (n0 ≤ 1114111)=true):vbody Tryz.prog X call lf noFg Tryz.f35 (codeOf Tryz.f35) [AV.int IntKind.i32 n0] [] 0=some (bo true,[]) :=
  along_sound (ans:=[(4,Ans.b false),(13,Ans.b true),(18,Ans.b true)]) (by kernel_rfl) (ai h0 (ai h1 (ai h2 trivial)))
theorem f91_pftf (n0:Int) (X:Ext) (call:Caller) (lf:Nat)
  (h0:decide (0 ≤ n0)=false)
  (h1:decide (57343 < n0)=true)
  (h2:decide (n0 ≤ 1114111)=false):vbody Tryz.prog X call lf noFg Tryz.f35 (codeOf Tryz.f35) [AV.int IntKind.i32 n0] [] 0=some (bo false,[]) :=
  along_sound (ans:=[(4,Ans.b false),(13,Ans.b true),(18,Ans.b false)]) (by kernel_rfl) (ai h0 (ai h1 (ai h2 trivial)))
theorem f91_pff (n0:Int) (X:Ext) (call:Caller) (lf:Nat)
  (h0:decide (0 ≤ n0)=false)
  (h1:decide (57343 < n0)=false):vbody Tryz.prog X call lf noFg Tryz.f35 (codeOf Tryz.f35) [AV.int IntKind.i32 n0] [] 0=some (bo false,[]) :=
  along_sound (ans:=[(4,Ans.b false),(13,Ans.b false)]) (by kernel_rfl) (ai h0 (ai h1 trivial))
def f91_q0 (n0:Int):Nat :=
  (match decide (0 ≤ n0) with
  | true => (match decide (n0 < 55296) with
    | true=>0
    | false => (match decide (57343 < n0) with
      | true => (match decide (n0 ≤ 1114111) with
        | true=>0
        | false=>1)
      | false=>1))
  | false => (match decide (57343 < n0) with
    | true => (match decide (n0 ≤ 1114111) with
      | true=>0
      | false=>1)
    | false=>1))
theorem f91_P0 (n0:Int) (X:Ext) (call:Caller) (lf:Nat) :
    (f91_q0 n0=0→vbody Tryz.prog X call lf noFg Tryz.f35 (codeOf Tryz.f35) [AV.int IntKind.i32 n0] [] 0=some (bo true,[]))∧(f91_q0 n0=1→vbody Tryz.prog X call lf noFg Tryz.f35 (codeOf Tryz.f35) [AV.int IntKind.i32 n0] [] 0=some (bo false,[])):=by
  unfold f91_q0
  cases c0:decide (0 ≤ n0) with
  | true =>
    cases c1:decide (n0 < 55296) with
    | true =>
      exact ⟨fun _=>f91_ptt n0 X call lf c0 c1,fun h=>nq h⟩
    | false =>
      cases c2:decide (57343 < n0) with
      | true =>
        cases c3:decide (n0 ≤ 1114111) with
        | true =>
          exact ⟨fun _=>f91_ptftt n0 X call lf c0 c1 c2 c3,fun h=>nq h⟩
        | false =>
          exact ⟨fun h=>nq h,fun _=>f91_ptftf n0 X call lf c0 c1 c2 c3⟩
      | false =>
        exact ⟨fun h=>nq h,fun _=>f91_ptff n0 X call lf c0 c1 c2⟩
  | false =>
    cases c1:decide (57343 < n0) with
    | true =>
      cases c2:decide (n0 ≤ 1114111) with
      | true =>
        exact ⟨fun _=>f91_pftt n0 X call lf c0 c1 c2,fun h=>nq h⟩
      | false =>
        exact ⟨fun h=>nq h,fun _=>f91_pftf n0 X call lf c0 c1 c2⟩
    | false =>
      exact ⟨fun h=>nq h,fun _=>f91_pff n0 X call lf c0 c1⟩
def f92_F0 (a0:List Lett) (i0:Nat):St :=
  stOf 33 [4,5,6,7,14,15,16,17,18,19,20,21,22,23,24,25,26,27,28,29,30,31] [(0,lro (List.length a0) 2 (List.flatMap lettC a0)),(2,AV.mnil),(3,AV.map 0),(8,lro (List.length a0) 2 (List.flatMap lettC a0)),(9,i6 (↑(List.length a0):Int)),(10,AV.map 0),(11,lro (List.length a0) 2 (List.flatMap lettC a0)),(12,i6 (↑(List.length a0):Int)),(13,i6 (↑i0:Int))] [Ob.mapo (mapR (idxR a0 i0))]
def f92_S0 (a0:List Lett):St :=
  stOf 33 [] [(0,lro (List.length a0) 2 (List.flatMap lettC a0)),(2,AV.mnil),(3,AV.map 0),(8,lro (List.length a0) 2 (List.flatMap lettC a0)),(9,i6 (↑(List.length a0):Int)),(10,AV.map 0),(11,lro (List.length a0) 2 (List.flatMap lettC a0)),(12,i6 (↑(List.length a0):Int)),(13,i6 0)] [Ob.mapo []]
abbrev f92_D0:List Nat:=[31,30,29,28,27,26,25,7,6,24,23,18,22,21,20,19,4,5,17,16,15,14]
theorem f92_L0 (a0:List Lett) (X:Ext) (call:Caller) (lf:Nat) (n:Nat) (x:Ex) (S' : St)
  (hn:n < lf)
  (hs:∀ j,j < n→∃ Sx,vexec Tryz.prog X call lf 0 fg92 (loopN Tryz.f36 0) (f92_F0 a0 j)=some (Ex.normal,Sx)∧forget f92_D0 Sx=(f92_F0 a0 (j + 1)))
  (he:vexec Tryz.prog X call lf 0 fg92 (loopN Tryz.f36 0) (f92_F0 a0 n)=some (x,S'))
  (hx:x ≠ Ex.normal):vexec Tryz.prog X call lf 0 fg92 (Go.Code.loop (loopN Tryz.f36 0)) (f92_S0 a0)=some (x,S') :=
  loop_runK (by kernel_rfl) (fun j=>(f92_F0 a0 j)) n hn (by show forget f92_D0 (f92_S0 a0)=(f92_F0 a0 0); unfold f92_F0; show _=_; kernel_rfl) hs he hx
theorem f92_s0_tt (a0:List Lett) (X:Ext) (call:Caller) (lf:Nat) (i0:Nat) (n16_0_0:Int) (n16_0_1:Int) (r16:List AV) (n22_0:Int) (b22_1:Bool)
  (h0:decide ((↑i0:Int) < (↑(List.length a0):Int))=true)
  (h1:keep [Ob.mapo (mapR (idxR a0 i0))] (indexAddrv Tryz.prog 22 [Ob.mapo (mapR (idxR a0 i0))] (lro (List.length a0) 2 (List.flatMap lettC a0)) (i6 (↑i0:Int)))=some (AV.eaddr (AV.int IntKind.i32 n16_0_0::AV.int IntKind.u32 n16_0_1::r16),[Ob.mapo (mapR (idxR a0 i0))]))
  (h2:keep [Ob.mapo (mapR (idxR a0 i0))] (lookupv Tryz.prog 66 [Ob.mapo (mapR (idxR a0 i0))] (AV.map 0) (AV.int IntKind.i32 n16_0_0) true)=some (AV.tup [i6 n22_0,bo b22_1],[Ob.mapo (mapR (idxR a0 i0))]))
  (h3:b22_1=true)
  (e0:(↑(i0 + 1):Int)=w6 ((↑i0:Int) + 1))
  (e1:[Ob.mapo (mapR (idxR a0 (i0 + 1)))]=[Ob.mapo (mapR (idxR a0 i0))]):∃ Sx,vexec Tryz.prog X call lf 0 fg92 (loopN Tryz.f36 0) (f92_F0 a0 i0)=some (Ex.normal,Sx)∧forget f92_D0 Sx=(f92_F0 a0 (i0 + 1)) :=
  ⟨stOf 33 [14,15,16,17,18,19,20,21,22,23,24,27,28,29,30,31] [(0,lro (List.length a0) 2 (List.flatMap lettC a0)),(2,AV.mnil),(3,AV.map 0),(4,i6 (↑i0:Int)),(5,AV.eaddr [AV.int IntKind.i32 n16_0_0,AV.int IntKind.u32 n16_0_1]),(6,i6 n22_0),(7,bo true),(8,lro (List.length a0) 2 (List.flatMap lettC a0)),(9,i6 (↑(List.length a0):Int)),(10,AV.map 0),(11,lro (List.length a0) 2 (List.flatMap lettC a0)),(12,i6 (↑(List.length a0):Int)),(13,i6 (w6 ((↑i0:Int) + 1))),(25,bo true),(26,bo false)] [Ob.mapo (mapR (idxR a0 i0))],around_sound (ans:=[(1,Ans.b true),(5,Ans.v (AV.eaddr (AV.int IntKind.i32 n16_0_0::AV.int IntKind.u32 n16_0_1::r16))),(11,Ans.v (AV.tup [i6 n22_0,bo b22_1])),(14,Ans.b true)]) (by kernel_rfl) (ai h0 (ai h1 (ai h2 (ai h3 trivial)))),by unfold f92_F0; rw [e0,e1]; show _=_; kernel_rfl⟩
theorem f92_s0_tf (a0:List Lett) (X:Ext) (call:Caller) (lf:Nat) (i0:Nat) (n16_0_0:Int) (n16_0_1:Int) (r16:List AV) (n22_0:Int) (b22_1:Bool) (sq26:List Ob)
  (h0:decide ((↑i0:Int) < (↑(List.length a0):Int))=true)
  (h1:keep [Ob.mapo (mapR (idxR a0 i0))] (indexAddrv Tryz.prog 22 [Ob.mapo (mapR (idxR a0 i0))] (lro (List.length a0) 2 (List.flatMap lettC a0)) (i6 (↑i0:Int)))=some (AV.eaddr (AV.int IntKind.i32 n16_0_0::AV.int IntKind.u32 n16_0_1::r16),[Ob.mapo (mapR (idxR a0 i0))]))
  (h2:keep [Ob.mapo (mapR (idxR a0 i0))] (lookupv Tryz.prog 66 [Ob.mapo (mapR (idxR a0 i0))] (AV.map 0) (AV.int IntKind.i32 n16_0_0) true)=some (AV.tup [i6 n22_0,bo b22_1],[Ob.mapo (mapR (idxR a0 i0))]))
  (h3:b22_1=false)
  (h4:unit1 (mapUpdatev Tryz.prog 66 [Ob.mapo (mapR (idxR a0 i0))] 0 (AV.map 0) (AV.int IntKind.i32 n16_0_0) (i6 (↑i0:Int)))=some (AV.undef,sq26))
  (e0:(↑(i0 + 1):Int)=w6 ((↑i0:Int) + 1))
  (e1:[Ob.mapo (mapR (idxR a0 (i0 + 1)))]=sq26):∃ Sx,vexec Tryz.prog X call lf 0 fg92 (loopN Tryz.f36 0) (f92_F0 a0 i0)=some (Ex.normal,Sx)∧forget f92_D0 Sx=(f92_F0 a0 (i0 + 1)) :=
  ⟨stOf 33 [14,15,16,17,18,19,20,21,22,23,24,27,28,29,30,31] [(0,lro (List.length a0) 2 (List.flatMap lettC a0)),(2,AV.mnil),(3,AV.map 0),(4,i6 (↑i0:Int)),(5,AV.eaddr [AV.int IntKind.i32 n16_0_0,AV.int IntKind.u32 n16_0_1]),(6,i6 n22_0),(7,bo false),(8,lro (List.length a0) 2 (List.flatMap lettC a0)),(9,i6 (↑(List.length a0):Int)),(10,AV.map 0),(11,lro (List.length a0) 2 (List.flatMap lettC a0)),(12,i6 (↑(List.length a0):Int)),(13,i6 (w6 ((↑i0:Int) + 1))),(25,bo false),(26,bo true)] sq26,around_sound (ans:=[(1,Ans.b true),(5,Ans.v (AV.eaddr (AV.int IntKind.i32 n16_0_0::AV.int IntKind.u32 n16_0_1::r16))),(11,Ans.v (AV.tup [i6 n22_0,bo b22_1])),(14,Ans.b false),(26,Ans.c AV.undef sq26)]) (by kernel_rfl) (ai h0 (ai h1 (ai h2 (ai h3 (ai h4 trivial))))),by unfold f92_F0; rw [e0,e1]; show _=_; kernel_rfl⟩
def f92_S1 (a0:List Lett) (i0:Nat):St :=
  stOf 33 [4,5,6,7,15,16,17,18,19,20,21,22,23,24,25,26,27,28,29,30,31] [(0,lro (List.length a0) 2 (List.flatMap lettC a0)),(2,AV.mnil),(3,AV.map 0),(8,lro (List.length a0) 2 (List.flatMap lettC a0)),(9,i6 (↑(List.length a0):Int)),(10,AV.map 0),(11,lro (List.length a0) 2 (List.flatMap lettC a0)),(12,i6 (↑(List.length a0):Int)),(13,i6 (↑i0:Int)),(14,bo false)] [Ob.mapo (mapR (idxR a0 i0))]
theorem f92_r0_f (a0:List Lett) (X:Ext) (call:Caller) (lf:Nat) (i0:Nat)
  (h0:decide ((↑i0:Int) < (↑(List.length a0):Int))=false):vexec Tryz.prog X call lf 0 fg92 (loopN Tryz.f36 0) (f92_F0 a0 i0)=some (Ex.exit 0,(f92_S1 a0 i0)) :=
  around_sound (ans:=[(1,Ans.b false)]) (by kernel_rfl) (ai h0 trivial)
theorem f92_plf (a0:List Lett) (X:Ext) (call:Caller) (lf:Nat) (i0:Nat)
  (h0:vexec Tryz.prog X call lf 0 fg92 (Code.loop (loopN Tryz.f36 0)) (f92_S0 a0)=some (Ex.exit 0,(f92_S1 a0 i0))):vbody Tryz.prog X call lf fg92 Tryz.f36 (codeOf Tryz.f36) [lettsV a0] [] 0=some (AV.map 0,[Ob.mapo (mapR (idxR a0 i0))]) :=
  along_sound (ans:=[(11,Ans.l (Ex.exit 0) (f92_S1 a0 i0))]) (by kernel_rfl) (ai h0 trivial)
def f92_o0 (a0:List Lett) (i0:Nat) (b22_1:Bool):Nat :=
  (match decide ((↑i0:Int) < (↑(List.length a0):Int)) with
  | true => (match b22_1 with
    | true=>0
    | false=>0)
  | false=>1)
theorem f92_B0 (a0:List Lett) (X:Ext) (call:Caller) (lf:Nat) (i0:Nat) (n16_0_0:Int) (n16_0_1:Int) (r16:List AV) (n22_0:Int) (b22_1:Bool) (sq26:List Ob)
  (g0:decide ((↑i0:Int) < (↑(List.length a0):Int))=true→keep [Ob.mapo (mapR (idxR a0 i0))] (indexAddrv Tryz.prog 22 [Ob.mapo (mapR (idxR a0 i0))] (lro (List.length a0) 2 (List.flatMap lettC a0)) (i6 (↑i0:Int)))=some (AV.eaddr (AV.int IntKind.i32 n16_0_0::AV.int IntKind.u32 n16_0_1::r16),[Ob.mapo (mapR (idxR a0 i0))]))
  (g1:decide ((↑i0:Int) < (↑(List.length a0):Int))=true→keep [Ob.mapo (mapR (idxR a0 i0))] (lookupv Tryz.prog 66 [Ob.mapo (mapR (idxR a0 i0))] (AV.map 0) (AV.int IntKind.i32 n16_0_0) true)=some (AV.tup [i6 n22_0,bo b22_1],[Ob.mapo (mapR (idxR a0 i0))]))
  (g2:decide ((↑i0:Int) < (↑(List.length a0):Int))=true→b22_1=false→unit1 (mapUpdatev Tryz.prog 66 [Ob.mapo (mapR (idxR a0 i0))] 0 (AV.map 0) (AV.int IntKind.i32 n16_0_0) (i6 (↑i0:Int)))=some (AV.undef,sq26))
  (e0:decide ((↑i0:Int) < (↑(List.length a0):Int))=true→(↑(i0 + 1):Int)=w6 ((↑i0:Int) + 1))
  (e1:decide ((↑i0:Int) < (↑(List.length a0):Int))=true→b22_1=true→[Ob.mapo (mapR (idxR a0 (i0 + 1)))]=[Ob.mapo (mapR (idxR a0 i0))])
  (e2 : decide ((↑i0 : Int) < (↑(List.length a0) : Int)) = true → b22_1 = false → [Ob.mapo (mapR (idxR a0 (i0 + 1)))] = sq26) :
    (f92_o0 a0 i0 b22_1=0→∃ Sx,vexec Tryz.prog X call lf 0 fg92 (loopN Tryz.f36 0) (f92_F0 a0 i0)=some (Ex.normal,Sx)∧forget f92_D0 Sx=(f92_F0 a0 (i0 + 1)))∧(f92_o0 a0 i0 b22_1=1→vexec Tryz.prog X call lf 0 fg92 (loopN Tryz.f36 0) (f92_F0 a0 i0)=some (Ex.exit 0,(f92_S1 a0 i0))):=by
  refine (Bool.eq_false_or_eq_true (decide ((↑i0:Int) < (↑(List.length a0):Int)))).elim (fun c0 => ?_) (fun c0 => ?_)
  ·
    refine (Bool.eq_false_or_eq_true (b22_1)).elim (fun c1 => ?_) (fun c1 => ?_)
    ·
      have ho : f92_o0 a0 i0 b22_1 = 0 := by
        unfold f92_o0
        simp only [c0,c1]
      exact ⟨fun _=>f92_s0_tt a0 X call lf i0 n16_0_0 n16_0_1 r16 n22_0 b22_1 c0 (g0 c0) (g1 c0) c1 (e0 c0) (e1 c0 c1),fun h=>absurd (ho.symm.trans h) (by decide)⟩
    ·
      have ho : f92_o0 a0 i0 b22_1 = 0 := by
        unfold f92_o0
        simp only [c0,c1]
      exact ⟨fun _=>f92_s0_tf a0 X call lf i0 n16_0_0 n16_0_1 r16 n22_0 b22_1 sq26 c0 (g0 c0) (g1 c0) c1 (g2 c0 c1) (e0 c0) (e2 c0 c1),fun h=>absurd (ho.symm.trans h) (by decide)⟩
  ·
    have ho : f92_o0 a0 i0 b22_1 = 1 := by
      unfold f92_o0
      simp only [c0]
    exact ⟨fun h=>absurd (ho.symm.trans h) (by decide),fun _=>f92_r0_f a0 X call lf i0 c0⟩
theorem f92_X0 (a0:List Lett) (X:Ext) (call:Caller) (lf:Nat) (i0:Nat) (n16_0_0:Int) (n16_0_1:Int) (r16:List AV) (n22_0:Int) (b22_1:Bool) (sq26:List Ob)
  (g0:decide ((↑i0:Int) < (↑(List.length a0):Int))=true→keep [Ob.mapo (mapR (idxR a0 i0))] (indexAddrv Tryz.prog 22 [Ob.mapo (mapR (idxR a0 i0))] (lro (List.length a0) 2 (List.flatMap lettC a0)) (i6 (↑i0:Int)))=some (AV.eaddr (AV.int IntKind.i32 n16_0_0::AV.int IntKind.u32 n16_0_1::r16),[Ob.mapo (mapR (idxR a0 i0))]))
  (g1:decide ((↑i0:Int) < (↑(List.length a0):Int))=true→keep [Ob.mapo (mapR (idxR a0 i0))] (lookupv Tryz.prog 66 [Ob.mapo (mapR (idxR a0 i0))] (AV.map 0) (AV.int IntKind.i32 n16_0_0) true)=some (AV.tup [i6 n22_0,bo b22_1],[Ob.mapo (mapR (idxR a0 i0))]))
  (g2 : decide ((↑i0 : Int) < (↑(List.length a0) : Int)) = true → b22_1 = false → unit1 (mapUpdatev Tryz.prog 66 [Ob.mapo (mapR (idxR a0 i0))] 0 (AV.map 0) (AV.int IntKind.i32 n16_0_0) (i6 (↑i0 : Int))) = some (AV.undef, sq26)) :
    (f92_o0 a0 i0 b22_1=1→vexec Tryz.prog X call lf 0 fg92 (loopN Tryz.f36 0) (f92_F0 a0 i0)=some (Ex.exit 0,(f92_S1 a0 i0))):=by
  refine (Bool.eq_false_or_eq_true (decide ((↑i0:Int) < (↑(List.length a0):Int)))).elim (fun c0 => ?_) (fun c0 => ?_)
  ·
    refine (Bool.eq_false_or_eq_true (b22_1)).elim (fun c1 => ?_) (fun c1 => ?_)
    ·
      have ho : f92_o0 a0 i0 b22_1 = 0 := by
        unfold f92_o0
        simp only [c0,c1]
      exact fun h=>absurd (ho.symm.trans h) (by decide)
    ·
      have ho : f92_o0 a0 i0 b22_1 = 0 := by
        unfold f92_o0
        simp only [c0,c1]
      exact fun h=>absurd (ho.symm.trans h) (by decide)
  ·
    have ho : f92_o0 a0 i0 b22_1 = 1 := by
      unfold f92_o0
      simp only [c0]
    exact fun _=>f92_r0_f a0 X call lf i0 c0
theorem f92_M (a0:List Lett) (X:Ext) (call:Caller) (lf:Nat) (n:Nat) (n16_0_0:Nat→Int) (n16_0_1:Nat→Int) (r16:Nat→List AV) (n22_0:Nat→Int) (b22_1:Nat→Bool) (sq26:Nat→List Ob)
  (hn:n < lf)
  (g0:∀ i0,i0 ≤ n→decide ((↑i0:Int) < (↑(List.length a0):Int))=true→keep [Ob.mapo (mapR (idxR a0 i0))] (indexAddrv Tryz.prog 22 [Ob.mapo (mapR (idxR a0 i0))] (lro (List.length a0) 2 (List.flatMap lettC a0)) (i6 (↑i0:Int)))=some (AV.eaddr (AV.int IntKind.i32 (n16_0_0 i0)::AV.int IntKind.u32 (n16_0_1 i0)::(r16 i0)),[Ob.mapo (mapR (idxR a0 i0))]))
  (g1:∀ i0,i0 ≤ n→decide ((↑i0:Int) < (↑(List.length a0):Int))=true→keep [Ob.mapo (mapR (idxR a0 i0))] (lookupv Tryz.prog 66 [Ob.mapo (mapR (idxR a0 i0))] (AV.map 0) (AV.int IntKind.i32 (n16_0_0 i0)) true)=some (AV.tup [i6 (n22_0 i0),bo (b22_1 i0)],[Ob.mapo (mapR (idxR a0 i0))]))
  (g2:∀ i0,i0 ≤ n→decide ((↑i0:Int) < (↑(List.length a0):Int))=true→(b22_1 i0)=false→unit1 (mapUpdatev Tryz.prog 66 [Ob.mapo (mapR (idxR a0 i0))] 0 (AV.map 0) (AV.int IntKind.i32 (n16_0_0 i0)) (i6 (↑i0:Int)))=some (AV.undef,(sq26 i0)))
  (e0:∀ i0,i0 < n→decide ((↑i0:Int) < (↑(List.length a0):Int))=true→(↑(i0 + 1):Int)=w6 ((↑i0:Int) + 1))
  (e1:∀ i0,i0 < n→decide ((↑i0:Int) < (↑(List.length a0):Int))=true→(b22_1 i0)=true→[Ob.mapo (mapR (idxR a0 (i0 + 1)))]=[Ob.mapo (mapR (idxR a0 i0))])
  (e2:∀ i0,i0 < n→decide ((↑i0:Int) < (↑(List.length a0):Int))=true→(b22_1 i0)=false→[Ob.mapo (mapR (idxR a0 (i0 + 1)))]=(sq26 i0))
  (hz : ∀ j, j < n → f92_o0 a0 j (b22_1 j) = 0) :
    (f92_o0 a0 n (b22_1 n)=1→vbody Tryz.prog X call lf fg92 Tryz.f36 (codeOf Tryz.f36) [lettsV a0] [] 0=some (AV.map 0,[Ob.mapo (mapR (idxR a0 n))])):=by
  have key:∀ j,j < n→_:=fun j hj=>(f92_B0 a0 X call lf j (n16_0_0 j) (n16_0_1 j) (r16 j) (n22_0 j) (b22_1 j) (sq26 j) (g0 j (Nat.le_of_lt hj)) (g1 j (Nat.le_of_lt hj)) (g2 j (Nat.le_of_lt hj)) (e0 j hj) (e1 j hj) (e2 j hj)).1 (hz j hj)
  have kn:=f92_X0 a0 X call lf n (n16_0_0 n) (n16_0_1 n) (r16 n) (n22_0 n) (b22_1 n) (sq26 n) (g0 n (Nat.le_refl n)) (g1 n (Nat.le_refl n)) (g2 n (Nat.le_refl n))
  exact fun hk=>f92_plf a0 X call lf n (f92_L0 a0 X call lf n _ _ hn key (kn hk) (by simp))
def fg70:Nat→List Nat
  | 1=>[5,6,7,8,9,10,11]
  | 5=>[17,18]
  | 6=>[19,20,21,22,23,24,25,26]
  | 8=>[28]
  | 5005=>[1]
  | _=>[]
theorem f70_pt (a0:List Lett) (X:Ext) (call:Caller) (lf:Nat)
  (h0:decide ((↑(List.length a0):Int) < 1)=true):vbody Tryz.prog X call lf fg70 Tryz.f14 (codeOf Tryz.f14) [lettsV a0] [] 0=some (bo false,[]) :=
  along_sound (ans:=[(5,Ans.b true)]) (by kernel_rfl) (ai h0 trivial)
theorem f70_pft (a0:List Lett) (X:Ext) (call:Caller) (lf:Nat)
  (h0:decide ((↑(List.length a0):Int) < 1)=false)
  (h1:decide ((↑(List.length a0):Int) > 64)=true):vbody Tryz.prog X call lf fg70 Tryz.f14 (codeOf Tryz.f14) [lettsV a0] [] 0=some (bo false,[]) :=
  along_sound (ans:=[(5,Ans.b false),(12,Ans.b true)]) (by kernel_rfl) (ai h0 (ai h1 trivial))
def f70_F0 (a0:List Lett) (i0:Nat):St :=
  stOf 35 [2,4,5,6,7,8,9,10,11,16,17,18,19,20,21,22,23,24,25,26,27,28] [(0,lro (List.length a0) 2 (List.flatMap lettC a0)),(12,bo false),(13,lro (List.length a0) 2 (List.flatMap lettC a0)),(14,i6 (↑(List.length a0):Int)),(15,i6 (↑i0:Int))] []
def f70_S0 (a0:List Lett):St :=
  stOf 35 [5,6,7,8,9,10,11] [(0,lro (List.length a0) 2 (List.flatMap lettC a0)),(2,bo false),(12,bo false),(13,lro (List.length a0) 2 (List.flatMap lettC a0)),(14,i6 (↑(List.length a0):Int)),(15,i6 0)] []
abbrev f70_D0:List Nat:=[28,2,27,26,25,24,23,22,21,20,19,4,18,17,16]
theorem f70_L0 (a0:List Lett) (X:Ext) (call:Caller) (lf:Nat) (n:Nat) (x:Ex) (S' : St)
  (hn:n < lf)
  (hs:∀ j,j < n→∃ Sx,vexec Tryz.prog X call lf 0 fg70 (loopN Tryz.f14 0) (f70_F0 a0 j)=some (Ex.normal,Sx)∧forget f70_D0 Sx=(f70_F0 a0 (j + 1)))
  (he:vexec Tryz.prog X call lf 0 fg70 (loopN Tryz.f14 0) (f70_F0 a0 n)=some (x,S'))
  (hx:x ≠ Ex.normal):vexec Tryz.prog X call lf 0 fg70 (Go.Code.loop (loopN Tryz.f14 0)) (f70_S0 a0)=some (x,S') :=
  loop_runK (by kernel_rfl) (fun j=>(f70_F0 a0 j)) n hn (by show forget f70_D0 (f70_S0 a0)=(f70_F0 a0 0); unfold f70_F0; show _=_; kernel_rfl) hs he hx
def f70_S1 (a0:List Lett) (i0:Nat) (n17_0_0:Int) (n17_0_1:Int):St :=
  stOf 35 [5,6,7,8,9,10,11,17,18,19,20,21,22,23,24,25,26,28] [(0,lro (List.length a0) 2 (List.flatMap lettC a0)),(2,bo false),(4,AV.eaddr [AV.int IntKind.i32 n17_0_0,AV.int IntKind.u32 n17_0_1]),(12,bo false),(13,lro (List.length a0) 2 (List.flatMap lettC a0)),(14,i6 (↑(List.length a0):Int)),(15,i6 (↑i0:Int)),(16,bo true),(27,bo true)] []
theorem f70_r0_tt (a0:List Lett) (X:Ext) (call:Caller) (lf:Nat) (i0:Nat) (n17_0_0:Int) (n17_0_1:Int) (r17:List AV)
  (h0:decide ((↑i0:Int) < (↑(List.length a0):Int))=true)
  (h1:keep [] (indexAddrv Tryz.prog 22 [] (lro (List.length a0) 2 (List.flatMap lettC a0)) (i6 (↑i0:Int)))=some (AV.eaddr (AV.int IntKind.i32 n17_0_0::AV.int IntKind.u32 n17_0_1::r17),[]))
  (h2:decide (n17_0_0 ≤ 32)=true):vexec Tryz.prog X call lf 0 fg70 (loopN Tryz.f14 0) (f70_F0 a0 i0)=some (Ex.ret,(f70_S1 a0 i0 n17_0_0 n17_0_1)) :=
  around_sound (ans:=[(1,Ans.b true),(4,Ans.v (AV.eaddr (AV.int IntKind.i32 n17_0_0::AV.int IntKind.u32 n17_0_1::r17))),(9,Ans.b true)]) (by kernel_rfl) (ai h0 (ai h1 (ai h2 trivial)))
theorem f70_pffltt (a0:List Lett) (X:Ext) (call:Caller) (lf:Nat) (i0:Nat) (n17_0_0:Int) (n17_0_1:Int)
  (h0:decide ((↑(List.length a0):Int) < 1)=false)
  (h1:decide ((↑(List.length a0):Int) > 64)=false)
  (h2:vexec Tryz.prog X call lf 0 fg70 (Code.loop (loopN Tryz.f14 0)) (f70_S0 a0)=some (Ex.ret,(f70_S1 a0 i0 n17_0_0 n17_0_1))):vbody Tryz.prog X call lf fg70 Tryz.f14 (codeOf Tryz.f14) [lettsV a0] [] 0=some (bo false,[]) :=
  along_sound (ans:=[(5,Ans.b false),(12,Ans.b false),(19,Ans.l Ex.ret (f70_S1 a0 i0 n17_0_0 n17_0_1))]) (by kernel_rfl) (ai h0 (ai h1 (ai h2 trivial)))
theorem f70_s0_tft (a0:List Lett) (X:Ext) (call:Caller) (lf:Nat) (i0:Nat) (n17_0_0:Int) (n17_0_1:Int) (r17:List AV)
  (h0:decide ((↑i0:Int) < (↑(List.length a0):Int))=true)
  (h1:keep [] (indexAddrv Tryz.prog 22 [] (lro (List.length a0) 2 (List.flatMap lettC a0)) (i6 (↑i0:Int)))=some (AV.eaddr (AV.int IntKind.i32 n17_0_0::AV.int IntKind.u32 n17_0_1::r17),[]))
  (h2:decide (n17_0_0 ≤ 32)=false)
  (h3:callv X call false 35 [AV.int IntKind.i32 n17_0_0] [] 0=some (bo true,[]))
  (e0:(↑(i0 + 1):Int)=w6 ((↑i0:Int) + 1)):∃ Sx,vexec Tryz.prog X call lf 0 fg70 (loopN Tryz.f14 0) (f70_F0 a0 i0)=some (Ex.normal,Sx)∧forget f70_D0 Sx=(f70_F0 a0 (i0 + 1)) :=
  ⟨stOf 35 [2,5,6,7,8,9,10,11,17,18,19,20,21,22,23,24,25,26,28] [(0,lro (List.length a0) 2 (List.flatMap lettC a0)),(4,AV.eaddr [AV.int IntKind.i32 n17_0_0,AV.int IntKind.u32 n17_0_1]),(12,bo false),(13,lro (List.length a0) 2 (List.flatMap lettC a0)),(14,i6 (↑(List.length a0):Int)),(15,i6 (w6 ((↑i0:Int) + 1))),(16,bo true),(27,bo false)] [],around_sound (ans:=[(1,Ans.b true),(4,Ans.v (AV.eaddr (AV.int IntKind.i32 n17_0_0::AV.int IntKind.u32 n17_0_1::r17))),(9,Ans.b false),(16,Ans.v (bo true))]) (by kernel_rfl) (ai h0 (ai h1 (ai h2 (ai h3 trivial)))),by unfold f70_F0; rw [e0]; show _=_; kernel_rfl⟩
theorem f70_r0_tff (a0:List Lett) (X:Ext) (call:Caller) (lf:Nat) (i0:Nat) (n17_0_0:Int) (n17_0_1:Int) (r17:List AV)
  (h0:decide ((↑i0:Int) < (↑(List.length a0):Int))=true)
  (h1:keep [] (indexAddrv Tryz.prog 22 [] (lro (List.length a0) 2 (List.flatMap lettC a0)) (i6 (↑i0:Int)))=some (AV.eaddr (AV.int IntKind.i32 n17_0_0::AV.int IntKind.u32 n17_0_1::r17),[]))
  (h2:decide (n17_0_0 ≤ 32)=false)
  (h3:callv X call false 35 [AV.int IntKind.i32 n17_0_0] [] 0=some (bo false,[])):vexec Tryz.prog X call lf 0 fg70 (loopN Tryz.f14 0) (f70_F0 a0 i0)=some (Ex.ret,(f70_S1 a0 i0 n17_0_0 n17_0_1)) :=
  around_sound (ans:=[(1,Ans.b true),(4,Ans.v (AV.eaddr (AV.int IntKind.i32 n17_0_0::AV.int IntKind.u32 n17_0_1::r17))),(9,Ans.b false),(16,Ans.v (bo false))]) (by kernel_rfl) (ai h0 (ai h1 (ai h2 (ai h3 trivial))))
theorem f70_pffltff (a0:List Lett) (X:Ext) (call:Caller) (lf:Nat) (i0:Nat) (n17_0_0:Int) (n17_0_1:Int)
  (h0:decide ((↑(List.length a0):Int) < 1)=false)
  (h1:decide ((↑(List.length a0):Int) > 64)=false)
  (h2:vexec Tryz.prog X call lf 0 fg70 (Code.loop (loopN Tryz.f14 0)) (f70_S0 a0)=some (Ex.ret,(f70_S1 a0 i0 n17_0_0 n17_0_1))):vbody Tryz.prog X call lf fg70 Tryz.f14 (codeOf Tryz.f14) [lettsV a0] [] 0=some (bo false,[]) :=
  along_sound (ans:=[(5,Ans.b false),(12,Ans.b false),(19,Ans.l Ex.ret (f70_S1 a0 i0 n17_0_0 n17_0_1))]) (by kernel_rfl) (ai h0 (ai h1 (ai h2 trivial)))
def f70_S2 (a0:List Lett) (i0:Nat):St :=
  stOf 35 [2,4,5,6,7,8,9,10,11,17,18,19,20,21,22,23,24,25,26,27,28] [(0,lro (List.length a0) 2 (List.flatMap lettC a0)),(12,bo false),(13,lro (List.length a0) 2 (List.flatMap lettC a0)),(14,i6 (↑(List.length a0):Int)),(15,i6 (↑i0:Int)),(16,bo false)] []
theorem f70_r0_f (a0:List Lett) (X:Ext) (call:Caller) (lf:Nat) (i0:Nat)
  (h0:decide ((↑i0:Int) < (↑(List.length a0):Int))=false):vexec Tryz.prog X call lf 0 fg70 (loopN Tryz.f14 0) (f70_F0 a0 i0)=some (Ex.exit 0,(f70_S2 a0 i0)) :=
  around_sound (ans:=[(1,Ans.b false)]) (by kernel_rfl) (ai h0 trivial)
theorem f70_pfflft (a0:List Lett) (X:Ext) (call:Caller) (lf:Nat) (i0:Nat)
  (h0:decide ((↑(List.length a0):Int) < 1)=false)
  (h1:decide ((↑(List.length a0):Int) > 64)=false)
  (h2:vexec Tryz.prog X call lf 0 fg70 (Code.loop (loopN Tryz.f14 0)) (f70_S0 a0)=some (Ex.exit 0,(f70_S2 a0 i0)))
  (h3:callv X call false 36 [lro (List.length a0) 2 (List.flatMap lettC a0)] [] 0=some (AV.map 0,[Ob.mapo (mapR (idxR a0 (List.length a0)))]))
  (h4:((↑(List.length (mapR (idxR a0 (List.length a0)))):Int) == (↑(List.length a0):Int))=true):vbody Tryz.prog X call lf fg70 Tryz.f14 (codeOf Tryz.f14) [lettsV a0] [] 0=some (bo true,[Ob.mapo (mapR (idxR a0 (List.length a0)))]) :=
  along_sound (ans:=[(5,Ans.b false),(12,Ans.b false),(19,Ans.l (Ex.exit 0) (f70_S2 a0 i0)),(22,Ans.c (AV.map 0) [Ob.mapo (mapR (idxR a0 (List.length a0)))]),(26,Ans.b true)]) (by kernel_rfl) (ai h0 (ai h1 (ai h2 (ai h3 (ai h4 trivial)))))
theorem f70_pfflff (a0:List Lett) (X:Ext) (call:Caller) (lf:Nat) (i0:Nat)
  (h0:decide ((↑(List.length a0):Int) < 1)=false)
  (h1:decide ((↑(List.length a0):Int) > 64)=false)
  (h2:vexec Tryz.prog X call lf 0 fg70 (Code.loop (loopN Tryz.f14 0)) (f70_S0 a0)=some (Ex.exit 0,(f70_S2 a0 i0)))
  (h3:callv X call false 36 [lro (List.length a0) 2 (List.flatMap lettC a0)] [] 0=some (AV.map 0,[Ob.mapo (mapR (idxR a0 (List.length a0)))]))
  (h4:((↑(List.length (mapR (idxR a0 (List.length a0)))):Int) == (↑(List.length a0):Int))=false):vbody Tryz.prog X call lf fg70 Tryz.f14 (codeOf Tryz.f14) [lettsV a0] [] 0=some (bo false,[Ob.mapo (mapR (idxR a0 (List.length a0)))]) :=
  along_sound (ans:=[(5,Ans.b false),(12,Ans.b false),(19,Ans.l (Ex.exit 0) (f70_S2 a0 i0)),(22,Ans.c (AV.map 0) [Ob.mapo (mapR (idxR a0 (List.length a0)))]),(26,Ans.b false)]) (by kernel_rfl) (ai h0 (ai h1 (ai h2 (ai h3 (ai h4 trivial)))))
def f70_o0 (a0:List Lett) (i0:Nat) (n17_0_0:Int) (b0:Bool):Nat :=
  (match decide ((↑i0:Int) < (↑(List.length a0):Int)) with
  | true => (match decide (n17_0_0 ≤ 32) with
    | true=>1
    | false => (match b0 with
      | true=>0
      | false=>1))
  | false=>2)
theorem f70_B0 (a0:List Lett) (X:Ext) (call:Caller) (lf:Nat) (i0:Nat) (n17_0_0:Int) (n17_0_1:Int) (r17:List AV) (b0:Bool)
  (g0:decide ((↑i0:Int) < (↑(List.length a0):Int))=true→keep [] (indexAddrv Tryz.prog 22 [] (lro (List.length a0) 2 (List.flatMap lettC a0)) (i6 (↑i0:Int)))=some (AV.eaddr (AV.int IntKind.i32 n17_0_0::AV.int IntKind.u32 n17_0_1::r17),[]))
  (g1:decide ((↑i0:Int) < (↑(List.length a0):Int))=true→decide (n17_0_0 ≤ 32)=false→callv X call false 35 [AV.int IntKind.i32 n17_0_0] [] 0=some (bo b0,[]))
  (e0 : decide ((↑i0 : Int) < (↑(List.length a0) : Int)) = true → (↑(i0 + 1) : Int) = w6 ((↑i0 : Int) + 1)) :
    (f70_o0 a0 i0 n17_0_0 b0=0→∃ Sx,vexec Tryz.prog X call lf 0 fg70 (loopN Tryz.f14 0) (f70_F0 a0 i0)=some (Ex.normal,Sx)∧forget f70_D0 Sx=(f70_F0 a0 (i0 + 1)))∧(f70_o0 a0 i0 n17_0_0 b0=1→vexec Tryz.prog X call lf 0 fg70 (loopN Tryz.f14 0) (f70_F0 a0 i0)=some (Ex.ret,(f70_S1 a0 i0 n17_0_0 n17_0_1)))∧(f70_o0 a0 i0 n17_0_0 b0=2→vexec Tryz.prog X call lf 0 fg70 (loopN Tryz.f14 0) (f70_F0 a0 i0)=some (Ex.exit 0,(f70_S2 a0 i0))):=by
  unfold f70_o0
  cases c0:decide ((↑i0:Int) < (↑(List.length a0):Int)) with
  | true =>
    cases c1:decide (n17_0_0 ≤ 32) with
    | true =>
      exact ⟨fun h=>nq h,fun _=>f70_r0_tt a0 X call lf i0 n17_0_0 n17_0_1 r17 c0 (g0 c0) c1,fun h=>nq h⟩
    | false =>
      cases c2:b0 with
      | true =>
        exact ⟨fun _=>f70_s0_tft a0 X call lf i0 n17_0_0 n17_0_1 r17 c0 (g0 c0) c1 (by have:=(g1 c0 c1); rw [c2] at this; exact this) (e0 c0),fun h=>nq h,fun h=>nq h⟩
      | false =>
        exact ⟨fun h=>nq h,fun _=>f70_r0_tff a0 X call lf i0 n17_0_0 n17_0_1 r17 c0 (g0 c0) c1 (by have:=(g1 c0 c1); rw [c2] at this; exact this),fun h=>nq h⟩
  | false =>
    exact ⟨fun h=>nq h,fun h=>nq h,fun _=>f70_r0_f a0 X call lf i0 c0⟩
theorem f70_X0 (a0:List Lett) (X:Ext) (call:Caller) (lf:Nat) (i0:Nat) (n17_0_0:Int) (n17_0_1:Int) (r17:List AV) (b0:Bool)
  (g0:decide ((↑i0:Int) < (↑(List.length a0):Int))=true→keep [] (indexAddrv Tryz.prog 22 [] (lro (List.length a0) 2 (List.flatMap lettC a0)) (i6 (↑i0:Int)))=some (AV.eaddr (AV.int IntKind.i32 n17_0_0::AV.int IntKind.u32 n17_0_1::r17),[]))
  (g1 : decide ((↑i0 : Int) < (↑(List.length a0) : Int)) = true → decide (n17_0_0 ≤ 32) = false → callv X call false 35 [AV.int IntKind.i32 n17_0_0] [] 0 = some (bo b0, [])) :
    (f70_o0 a0 i0 n17_0_0 b0=1→vexec Tryz.prog X call lf 0 fg70 (loopN Tryz.f14 0) (f70_F0 a0 i0)=some (Ex.ret,(f70_S1 a0 i0 n17_0_0 n17_0_1)))∧(f70_o0 a0 i0 n17_0_0 b0=2→vexec Tryz.prog X call lf 0 fg70 (loopN Tryz.f14 0) (f70_F0 a0 i0)=some (Ex.exit 0,(f70_S2 a0 i0))):=by
  unfold f70_o0
  cases c0:decide ((↑i0:Int) < (↑(List.length a0):Int)) with
  | true =>
    cases c1:decide (n17_0_0 ≤ 32) with
    | true =>
      exact ⟨fun _=>f70_r0_tt a0 X call lf i0 n17_0_0 n17_0_1 r17 c0 (g0 c0) c1,fun h=>nq h⟩
    | false =>
      cases c2:b0 with
      | true =>
        exact ⟨fun h=>nq h,fun h=>nq h⟩
      | false =>
        exact ⟨fun _=>f70_r0_tff a0 X call lf i0 n17_0_0 n17_0_1 r17 c0 (g0 c0) c1 (by have:=(g1 c0 c1); rw [c2] at this; exact this),fun h=>nq h⟩
  | false =>
    exact ⟨fun h=>nq h,fun _=>f70_r0_f a0 X call lf i0 c0⟩
theorem f70_M (a0:List Lett) (X:Ext) (call:Caller) (lf:Nat) (n:Nat) (n17_0_0:Nat→Int) (n17_0_1:Nat→Int) (r17:Nat→List AV) (b0:Nat→Bool)
  (hn:n < lf)
  (g0:∀ i0,i0 ≤ n→decide ((↑i0:Int) < (↑(List.length a0):Int))=true→keep [] (indexAddrv Tryz.prog 22 [] (lro (List.length a0) 2 (List.flatMap lettC a0)) (i6 (↑i0:Int)))=some (AV.eaddr (AV.int IntKind.i32 (n17_0_0 i0)::AV.int IntKind.u32 (n17_0_1 i0)::(r17 i0)),[]))
  (g1:∀ i0,i0 ≤ n→decide ((↑i0:Int) < (↑(List.length a0):Int))=true→decide ((n17_0_0 i0) ≤ 32)=false→callv X call false 35 [AV.int IntKind.i32 (n17_0_0 i0)] [] 0=some (bo (b0 i0),[]))
  (e0:∀ i0,i0 < n→decide ((↑i0:Int) < (↑(List.length a0):Int))=true→(↑(i0 + 1):Int)=w6 ((↑i0:Int) + 1))
  (hz : ∀ j, j < n → f70_o0 a0 j (n17_0_0 j) (b0 j) = 0) :
    (f70_o0 a0 n (n17_0_0 n) (b0 n)=1→decide ((↑(List.length a0):Int) < 1)=false→decide ((↑(List.length a0):Int) > 64)=false→vbody Tryz.prog X call lf fg70 Tryz.f14 (codeOf Tryz.f14) [lettsV a0] [] 0=some (bo false,[]))∧(f70_o0 a0 n (n17_0_0 n) (b0 n)=1→decide ((↑(List.length a0):Int) < 1)=false→decide ((↑(List.length a0):Int) > 64)=false→vbody Tryz.prog X call lf fg70 Tryz.f14 (codeOf Tryz.f14) [lettsV a0] [] 0=some (bo false,[]))∧(f70_o0 a0 n (n17_0_0 n) (b0 n)=2→decide ((↑(List.length a0):Int) < 1)=false→decide ((↑(List.length a0):Int) > 64)=false→callv X call false 36 [lro (List.length a0) 2 (List.flatMap lettC a0)] [] 0=some (AV.map 0,[Ob.mapo (mapR (idxR a0 (List.length a0)))])→((↑(List.length (mapR (idxR a0 (List.length a0)))):Int) == (↑(List.length a0):Int))=true→vbody Tryz.prog X call lf fg70 Tryz.f14 (codeOf Tryz.f14) [lettsV a0] [] 0=some (bo true,[Ob.mapo (mapR (idxR a0 (List.length a0)))]))∧(f70_o0 a0 n (n17_0_0 n) (b0 n)=2→decide ((↑(List.length a0):Int) < 1)=false→decide ((↑(List.length a0):Int) > 64)=false→callv X call false 36 [lro (List.length a0) 2 (List.flatMap lettC a0)] [] 0=some (AV.map 0,[Ob.mapo (mapR (idxR a0 (List.length a0)))])→((↑(List.length (mapR (idxR a0 (List.length a0)))):Int) == (↑(List.length a0):Int))=false→vbody Tryz.prog X call lf fg70 Tryz.f14 (codeOf Tryz.f14) [lettsV a0] [] 0=some (bo false,[Ob.mapo (mapR (idxR a0 (List.length a0)))])):=by
  have key:∀ j,j < n→_:=fun j hj=>(f70_B0 a0 X call lf j (n17_0_0 j) (n17_0_1 j) (r17 j) (b0 j) (g0 j (Nat.le_of_lt hj)) (g1 j (Nat.le_of_lt hj)) (e0 j hj)).1 (hz j hj)
  have kn:=f70_X0 a0 X call lf n (n17_0_0 n) (n17_0_1 n) (r17 n) (b0 n) (g0 n (Nat.le_refl n)) (g1 n (Nat.le_refl n))
  exact ⟨fun hk q0 q1 => f70_pffltt a0 X call lf n (n17_0_0 n) (n17_0_1 n) q0 q1 (f70_L0 a0 X call lf n _ _ hn key (kn.1 hk) (by simp)),
    fun hk q0 q1=>f70_pffltff a0 X call lf n (n17_0_0 n) (n17_0_1 n) q0 q1 (f70_L0 a0 X call lf n _ _ hn key (kn.1 hk) (by simp)),
    fun hk q0 q1 q2 q3=>f70_pfflft a0 X call lf n q0 q1 (f70_L0 a0 X call lf n _ _ hn key (kn.2 hk) (by simp)) q2 q3,
    fun hk q0 q1 q2 q3=>f70_pfflff a0 X call lf n q0 q1 (f70_L0 a0 X call lf n _ _ hn key (kn.2 hk) (by simp)) q2 q3⟩
def fg38:Nat→List Nat
  | 1=>[8,9,10,11,12,13,14]
  | 6=>[21,22]
  | 7=>[23,24,25,26,27,28,29,30,31,32,33,34,35,36,37,38,39,40,41,42,43,44,45,46,47,48,49,50,51,52,53,54,55,56,57,58,59,60,61]
  | 9=>[63,64,65]
  | 10=>[66]
  | 5006=>[1]
  | _=>[]
theorem f38_ptt (a0:List Lett) (x0:List Lexm) (X:Ext) (call:Caller) (lf:Nat)
  (h0:callv X call false 14 [lro (List.length a0) 2 (List.flatMap lettC a0)] [] 0=some (bo true,[]))
  (h1:decide ((↑(List.length x0):Int) > 256)=true):vbody Tryz.prog X call lf fg38 Tryz.f6 (codeOf Tryz.f6) [lettsV a0,lexsV x0] [] 0=some (bo false,[]) :=
  along_sound (ans:=[(4,Ans.v (bo true)),(12,Ans.b true)]) (by kernel_rfl) (ai h0 (ai h1 trivial))
def f38_F0 (a0:List Lett) (x0:List Lexm) (i0:Nat):St :=
  stOf 67 [4,7,8,9,10,11,12,13,14,20,21,22,23,24,25,26,27,28,29,30,31,32,33,34,35,36,37,38,39,40,41,42,43,44,45,46,47,48,49,50,51,52,53,54,55,56,57,58,59,60,61,62,63,64,65,66] [(0,lro (List.length a0) 2 (List.flatMap lettC a0)),(1,lro (List.length x0) 5 (List.flatMap lexC x0)),(5,AV.map 0),(15,bo false),(16,AV.map 0),(17,lro (List.length x0) 5 (List.flatMap lexC x0)),(18,i6 (↑(List.length x0):Int)),(19,i6 (↑i0:Int))] [Ob.mapo (idsR x0 i0)]
def f38_S0 (a0:List Lett) (x0:List Lexm):St :=
  stOf 67 [8,9,10,11,12,13,14] [(0,lro (List.length a0) 2 (List.flatMap lettC a0)),(1,lro (List.length x0) 5 (List.flatMap lexC x0)),(4,bo false),(5,AV.map 0),(15,bo false),(16,AV.map 0),(17,lro (List.length x0) 5 (List.flatMap lexC x0)),(18,i6 (↑(List.length x0):Int)),(19,i6 0)] [Ob.mapo []]
abbrev f38_D0:List Nat:=[66,65,64,63,4,62,61,60,59,58,57,56,55,54,53,52,51,50,49,48,47,46,45,44,43,42,41,40,39,38,37,36,35,34,33,32,31,30,29,28,27,26,25,24,23,7,22,21,20]
theorem f38_L0 (a0:List Lett) (x0:List Lexm) (X:Ext) (call:Caller) (lf:Nat) (n:Nat) (x:Ex) (S' : St)
  (hn:n < lf)
  (hs:∀ j,j < n→∃ Sx,vexec Tryz.prog X call lf 0 fg38 (loopN Tryz.f6 0) (f38_F0 a0 x0 j)=some (Ex.normal,Sx)∧forget f38_D0 Sx=(f38_F0 a0 x0 (j + 1)))
  (he:vexec Tryz.prog X call lf 0 fg38 (loopN Tryz.f6 0) (f38_F0 a0 x0 n)=some (x,S'))
  (hx:x ≠ Ex.normal):vexec Tryz.prog X call lf 0 fg38 (Go.Code.loop (loopN Tryz.f6 0)) (f38_S0 a0 x0)=some (x,S') :=
  loop_runK (by kernel_rfl) (fun j=>(f38_F0 a0 x0 j)) n hn (by show forget f38_D0 (f38_S0 a0 x0)=(f38_F0 a0 x0 0); unfold f38_F0; show _=_; kernel_rfl) hs he hx
def f38_S1 (a0:List Lett) (x0:List Lexm) (i0:Nat) (x21_0_0:ByteArray) (x21_0_1:ByteArray) (x21_0_2:ByteArray) (x21_0_3:ByteArray) (m21_0_4:Nat) (c21_0_4:List AV):St :=
  stOf 67 [8,9,10,11,12,13,14,21,22,23,24,25,26,27,28,29,30,31,32,33,34,35,36,37,38,39,40,41,42,43,44,45,46,47,48,49,50,51,52,53,54,55,56,57,58,59,60,61,63,64,65,66] [(0,lro (List.length a0) 2 (List.flatMap lettC a0)),(1,lro (List.length x0) 5 (List.flatMap lexC x0)),(4,bo false),(5,AV.map 0),(7,AV.eaddr [st x21_0_0,st x21_0_1,st x21_0_2,st x21_0_3,lro m21_0_4 2 c21_0_4]),(15,bo false),(16,AV.map 0),(17,lro (List.length x0) 5 (List.flatMap lexC x0)),(18,i6 (↑(List.length x0):Int)),(19,i6 (↑i0:Int)),(20,bo true),(62,bo true)] [Ob.mapo (idsR x0 i0)]
theorem f38_r0_tt (a0:List Lett) (x0:List Lexm) (X:Ext) (call:Caller) (lf:Nat) (i0:Nat) (x21_0_0:ByteArray) (x21_0_1:ByteArray) (x21_0_2:ByteArray) (x21_0_3:ByteArray) (m21_0_4:Nat) (c21_0_4:List AV) (r21:List AV)
  (h0:decide ((↑i0:Int) < (↑(List.length x0):Int))=true)
  (h1:keep [Ob.mapo (idsR x0 i0)] (indexAddrv Tryz.prog 23 [Ob.mapo (idsR x0 i0)] (lro (List.length x0) 5 (List.flatMap lexC x0)) (i6 (↑i0:Int)))=some (AV.eaddr (st x21_0_0::st x21_0_1::st x21_0_2::st x21_0_3::lro m21_0_4 2 c21_0_4::r21),[Ob.mapo (idsR x0 i0)]))
  (h2:keep [Ob.mapo (idsR x0 i0)] (lookupv Tryz.prog 43 [Ob.mapo (idsR x0 i0)] (AV.map 0) (st x21_0_0) false)=some (bo true,[Ob.mapo (idsR x0 i0)])):vexec Tryz.prog X call lf 0 fg38 (loopN Tryz.f6 0) (f38_F0 a0 x0 i0)=some (Ex.ret,(f38_S1 a0 x0 i0 x21_0_0 x21_0_1 x21_0_2 x21_0_3 m21_0_4 c21_0_4)) :=
  around_sound (ans:=[(1,Ans.b true),(4,Ans.v (AV.eaddr (st x21_0_0::st x21_0_1::st x21_0_2::st x21_0_3::lro m21_0_4 2 c21_0_4::r21))),(10,Ans.v (bo true))]) (by kernel_rfl) (ai h0 (ai h1 (ai h2 trivial)))
theorem f38_ptfltt (a0:List Lett) (x0:List Lexm) (X:Ext) (call:Caller) (lf:Nat) (i0:Nat) (x21_0_0:ByteArray) (x21_0_1:ByteArray) (x21_0_2:ByteArray) (x21_0_3:ByteArray) (m21_0_4:Nat) (c21_0_4:List AV)
  (h0:callv X call false 14 [lro (List.length a0) 2 (List.flatMap lettC a0)] [] 0=some (bo true,[]))
  (h1:decide ((↑(List.length x0):Int) > 256)=false)
  (h2:vexec Tryz.prog X call lf 0 fg38 (Code.loop (loopN Tryz.f6 0)) (f38_S0 a0 x0)=some (Ex.ret,(f38_S1 a0 x0 i0 x21_0_0 x21_0_1 x21_0_2 x21_0_3 m21_0_4 c21_0_4))):vbody Tryz.prog X call lf fg38 Tryz.f6 (codeOf Tryz.f6) [lettsV a0,lexsV x0] [] 0=some (bo false,[Ob.mapo (idsR x0 i0)]) :=
  along_sound (ans:=[(4,Ans.v (bo true)),(12,Ans.b false),(22,Ans.l Ex.ret (f38_S1 a0 x0 i0 x21_0_0 x21_0_1 x21_0_2 x21_0_3 m21_0_4 c21_0_4))]) (by kernel_rfl) (ai h0 (ai h1 (ai h2 trivial)))
theorem f38_s0_tftttttt (a0:List Lett) (x0:List Lexm) (X:Ext) (call:Caller) (lf:Nat) (i0:Nat) (x21_0_0:ByteArray) (x21_0_1:ByteArray) (x21_0_2:ByteArray) (x21_0_3:ByteArray) (m21_0_4:Nat) (c21_0_4:List AV) (r21:List AV) (sq78:List Ob)
  (h0:decide ((↑i0:Int) < (↑(List.length x0):Int))=true)
  (h1:keep [Ob.mapo (idsR x0 i0)] (indexAddrv Tryz.prog 23 [Ob.mapo (idsR x0 i0)] (lro (List.length x0) 5 (List.flatMap lexC x0)) (i6 (↑i0:Int)))=some (AV.eaddr (st x21_0_0::st x21_0_1::st x21_0_2::st x21_0_3::lro m21_0_4 2 c21_0_4::r21),[Ob.mapo (idsR x0 i0)]))
  (h2:keep [Ob.mapo (idsR x0 i0)] (lookupv Tryz.prog 43 [Ob.mapo (idsR x0 i0)] (AV.map 0) (st x21_0_0) false)=some (bo false,[Ob.mapo (idsR x0 i0)]))
  (h3:callv X call false 15 [st x21_0_0] [Ob.mapo (idsR x0 i0)] 0=some (bo true,[Ob.mapo (idsR x0 i0)]))
  (h4:callv X call false 15 [st x21_0_1] [Ob.mapo (idsR x0 i0)] 0=some (bo true,[Ob.mapo (idsR x0 i0)]))
  (h5:(!ByteArray.toList x21_0_3 == ByteArray.toList (ByteArray.mk #[]))=true)
  (h6:callv X call false 15 [st x21_0_3] [Ob.mapo (idsR x0 i0)] 0=some (bo true,[Ob.mapo (idsR x0 i0)]))
  (h7:callv X call false 16 [lro (List.length a0) 2 (List.flatMap lettC a0),st x21_0_2] [Ob.mapo (idsR x0 i0)] 0=some (bo true,[Ob.mapo (idsR x0 i0)]))
  (h8:callv X call false 17 [lro m21_0_4 2 c21_0_4] [Ob.mapo (idsR x0 i0)] 0=some (bo true,[Ob.mapo (idsR x0 i0)]))
  (h9:unit1 (mapUpdatev Tryz.prog 43 [Ob.mapo (idsR x0 i0)] 0 (AV.map 0) (st x21_0_0) (bo true))=some (AV.undef,sq78))
  (e0:(↑(i0 + 1):Int)=w6 ((↑i0:Int) + 1))
  (e1:[Ob.mapo (idsR x0 (i0 + 1))]=sq78):∃ Sx,vexec Tryz.prog X call lf 0 fg38 (loopN Tryz.f6 0) (f38_F0 a0 x0 i0)=some (Ex.normal,Sx)∧forget f38_D0 Sx=(f38_F0 a0 x0 (i0 + 1)) :=
  ⟨stOf 67 [4,8,9,10,11,12,13,14,21,22,23,24,25,26,27,28,29,30,31,32,33,34,35,36,37,38,39,40,41,42,43,44,45,46,47,48,49,50,51,52,53,54,55,56,57,58,59,60,61,63,64,65,66] [(0,lro (List.length a0) 2 (List.flatMap lettC a0)),(1,lro (List.length x0) 5 (List.flatMap lexC x0)),(5,AV.map 0),(7,AV.eaddr [st x21_0_0,st x21_0_1,st x21_0_2,st x21_0_3,lro m21_0_4 2 c21_0_4]),(15,bo false),(16,AV.map 0),(17,lro (List.length x0) 5 (List.flatMap lexC x0)),(18,i6 (↑(List.length x0):Int)),(19,i6 (w6 ((↑i0:Int) + 1))),(20,bo true),(62,bo false)] sq78,around_sound (ans:=[(1,Ans.b true),(4,Ans.v (AV.eaddr (st x21_0_0::st x21_0_1::st x21_0_2::st x21_0_3::lro m21_0_4 2 c21_0_4::r21))),(10,Ans.v (bo false)),(17,Ans.v (bo true)),(27,Ans.v (bo true)),(37,Ans.b true),(45,Ans.v (bo true)),(59,Ans.v (bo true)),(69,Ans.v (bo true)),(78,Ans.c AV.undef sq78)]) (by kernel_rfl) (ai h0 (ai h1 (ai h2 (ai h3 (ai h4 (ai h5 (ai h6 (ai h7 (ai h8 (ai h9 trivial)))))))))),by unfold f38_F0; rw [e0,e1]; show _=_; kernel_rfl⟩
theorem f38_r0_tftttttf (a0:List Lett) (x0:List Lexm) (X:Ext) (call:Caller) (lf:Nat) (i0:Nat) (x21_0_0:ByteArray) (x21_0_1:ByteArray) (x21_0_2:ByteArray) (x21_0_3:ByteArray) (m21_0_4:Nat) (c21_0_4:List AV) (r21:List AV)
  (h0:decide ((↑i0:Int) < (↑(List.length x0):Int))=true)
  (h1:keep [Ob.mapo (idsR x0 i0)] (indexAddrv Tryz.prog 23 [Ob.mapo (idsR x0 i0)] (lro (List.length x0) 5 (List.flatMap lexC x0)) (i6 (↑i0:Int)))=some (AV.eaddr (st x21_0_0::st x21_0_1::st x21_0_2::st x21_0_3::lro m21_0_4 2 c21_0_4::r21),[Ob.mapo (idsR x0 i0)]))
  (h2:keep [Ob.mapo (idsR x0 i0)] (lookupv Tryz.prog 43 [Ob.mapo (idsR x0 i0)] (AV.map 0) (st x21_0_0) false)=some (bo false,[Ob.mapo (idsR x0 i0)]))
  (h3:callv X call false 15 [st x21_0_0] [Ob.mapo (idsR x0 i0)] 0=some (bo true,[Ob.mapo (idsR x0 i0)]))
  (h4:callv X call false 15 [st x21_0_1] [Ob.mapo (idsR x0 i0)] 0=some (bo true,[Ob.mapo (idsR x0 i0)]))
  (h5:(!ByteArray.toList x21_0_3 == ByteArray.toList (ByteArray.mk #[]))=true)
  (h6:callv X call false 15 [st x21_0_3] [Ob.mapo (idsR x0 i0)] 0=some (bo true,[Ob.mapo (idsR x0 i0)]))
  (h7:callv X call false 16 [lro (List.length a0) 2 (List.flatMap lettC a0),st x21_0_2] [Ob.mapo (idsR x0 i0)] 0=some (bo true,[Ob.mapo (idsR x0 i0)]))
  (h8:callv X call false 17 [lro m21_0_4 2 c21_0_4] [Ob.mapo (idsR x0 i0)] 0=some (bo false,[Ob.mapo (idsR x0 i0)])):vexec Tryz.prog X call lf 0 fg38 (loopN Tryz.f6 0) (f38_F0 a0 x0 i0)=some (Ex.ret,(f38_S1 a0 x0 i0 x21_0_0 x21_0_1 x21_0_2 x21_0_3 m21_0_4 c21_0_4)) :=
  around_sound (ans:=[(1,Ans.b true),(4,Ans.v (AV.eaddr (st x21_0_0::st x21_0_1::st x21_0_2::st x21_0_3::lro m21_0_4 2 c21_0_4::r21))),(10,Ans.v (bo false)),(17,Ans.v (bo true)),(27,Ans.v (bo true)),(37,Ans.b true),(45,Ans.v (bo true)),(59,Ans.v (bo true)),(69,Ans.v (bo false))]) (by kernel_rfl) (ai h0 (ai h1 (ai h2 (ai h3 (ai h4 (ai h5 (ai h6 (ai h7 (ai h8 trivial)))))))))
theorem f38_ptfltftttttf (a0:List Lett) (x0:List Lexm) (X:Ext) (call:Caller) (lf:Nat) (i0:Nat) (x21_0_0:ByteArray) (x21_0_1:ByteArray) (x21_0_2:ByteArray) (x21_0_3:ByteArray) (m21_0_4:Nat) (c21_0_4:List AV)
  (h0:callv X call false 14 [lro (List.length a0) 2 (List.flatMap lettC a0)] [] 0=some (bo true,[]))
  (h1:decide ((↑(List.length x0):Int) > 256)=false)
  (h2:vexec Tryz.prog X call lf 0 fg38 (Code.loop (loopN Tryz.f6 0)) (f38_S0 a0 x0)=some (Ex.ret,(f38_S1 a0 x0 i0 x21_0_0 x21_0_1 x21_0_2 x21_0_3 m21_0_4 c21_0_4))):vbody Tryz.prog X call lf fg38 Tryz.f6 (codeOf Tryz.f6) [lettsV a0,lexsV x0] [] 0=some (bo false,[Ob.mapo (idsR x0 i0)]) :=
  along_sound (ans:=[(4,Ans.v (bo true)),(12,Ans.b false),(22,Ans.l Ex.ret (f38_S1 a0 x0 i0 x21_0_0 x21_0_1 x21_0_2 x21_0_3 m21_0_4 c21_0_4))]) (by kernel_rfl) (ai h0 (ai h1 (ai h2 trivial)))
theorem f38_r0_tfttttf (a0:List Lett) (x0:List Lexm) (X:Ext) (call:Caller) (lf:Nat) (i0:Nat) (x21_0_0:ByteArray) (x21_0_1:ByteArray) (x21_0_2:ByteArray) (x21_0_3:ByteArray) (m21_0_4:Nat) (c21_0_4:List AV) (r21:List AV)
  (h0:decide ((↑i0:Int) < (↑(List.length x0):Int))=true)
  (h1:keep [Ob.mapo (idsR x0 i0)] (indexAddrv Tryz.prog 23 [Ob.mapo (idsR x0 i0)] (lro (List.length x0) 5 (List.flatMap lexC x0)) (i6 (↑i0:Int)))=some (AV.eaddr (st x21_0_0::st x21_0_1::st x21_0_2::st x21_0_3::lro m21_0_4 2 c21_0_4::r21),[Ob.mapo (idsR x0 i0)]))
  (h2:keep [Ob.mapo (idsR x0 i0)] (lookupv Tryz.prog 43 [Ob.mapo (idsR x0 i0)] (AV.map 0) (st x21_0_0) false)=some (bo false,[Ob.mapo (idsR x0 i0)]))
  (h3:callv X call false 15 [st x21_0_0] [Ob.mapo (idsR x0 i0)] 0=some (bo true,[Ob.mapo (idsR x0 i0)]))
  (h4:callv X call false 15 [st x21_0_1] [Ob.mapo (idsR x0 i0)] 0=some (bo true,[Ob.mapo (idsR x0 i0)]))
  (h5:(!ByteArray.toList x21_0_3 == ByteArray.toList (ByteArray.mk #[]))=true)
  (h6:callv X call false 15 [st x21_0_3] [Ob.mapo (idsR x0 i0)] 0=some (bo true,[Ob.mapo (idsR x0 i0)]))
  (h7:callv X call false 16 [lro (List.length a0) 2 (List.flatMap lettC a0),st x21_0_2] [Ob.mapo (idsR x0 i0)] 0=some (bo false,[Ob.mapo (idsR x0 i0)])):vexec Tryz.prog X call lf 0 fg38 (loopN Tryz.f6 0) (f38_F0 a0 x0 i0)=some (Ex.ret,(f38_S1 a0 x0 i0 x21_0_0 x21_0_1 x21_0_2 x21_0_3 m21_0_4 c21_0_4)) :=
  around_sound (ans:=[(1,Ans.b true),(4,Ans.v (AV.eaddr (st x21_0_0::st x21_0_1::st x21_0_2::st x21_0_3::lro m21_0_4 2 c21_0_4::r21))),(10,Ans.v (bo false)),(17,Ans.v (bo true)),(27,Ans.v (bo true)),(37,Ans.b true),(45,Ans.v (bo true)),(59,Ans.v (bo false))]) (by kernel_rfl) (ai h0 (ai h1 (ai h2 (ai h3 (ai h4 (ai h5 (ai h6 (ai h7 trivial))))))))
theorem f38_ptfltfttttf (a0:List Lett) (x0:List Lexm) (X:Ext) (call:Caller) (lf:Nat) (i0:Nat) (x21_0_0:ByteArray) (x21_0_1:ByteArray) (x21_0_2:ByteArray) (x21_0_3:ByteArray) (m21_0_4:Nat) (c21_0_4:List AV)
  (h0:callv X call false 14 [lro (List.length a0) 2 (List.flatMap lettC a0)] [] 0=some (bo true,[]))
  (h1:decide ((↑(List.length x0):Int) > 256)=false)
  (h2:vexec Tryz.prog X call lf 0 fg38 (Code.loop (loopN Tryz.f6 0)) (f38_S0 a0 x0)=some (Ex.ret,(f38_S1 a0 x0 i0 x21_0_0 x21_0_1 x21_0_2 x21_0_3 m21_0_4 c21_0_4))):vbody Tryz.prog X call lf fg38 Tryz.f6 (codeOf Tryz.f6) [lettsV a0,lexsV x0] [] 0=some (bo false,[Ob.mapo (idsR x0 i0)]) :=
  along_sound (ans:=[(4,Ans.v (bo true)),(12,Ans.b false),(22,Ans.l Ex.ret (f38_S1 a0 x0 i0 x21_0_0 x21_0_1 x21_0_2 x21_0_3 m21_0_4 c21_0_4))]) (by kernel_rfl) (ai h0 (ai h1 (ai h2 trivial)))
theorem f38_r0_tftttf (a0:List Lett) (x0:List Lexm) (X:Ext) (call:Caller) (lf:Nat) (i0:Nat) (x21_0_0:ByteArray) (x21_0_1:ByteArray) (x21_0_2:ByteArray) (x21_0_3:ByteArray) (m21_0_4:Nat) (c21_0_4:List AV) (r21:List AV)
  (h0:decide ((↑i0:Int) < (↑(List.length x0):Int))=true)
  (h1:keep [Ob.mapo (idsR x0 i0)] (indexAddrv Tryz.prog 23 [Ob.mapo (idsR x0 i0)] (lro (List.length x0) 5 (List.flatMap lexC x0)) (i6 (↑i0:Int)))=some (AV.eaddr (st x21_0_0::st x21_0_1::st x21_0_2::st x21_0_3::lro m21_0_4 2 c21_0_4::r21),[Ob.mapo (idsR x0 i0)]))
  (h2:keep [Ob.mapo (idsR x0 i0)] (lookupv Tryz.prog 43 [Ob.mapo (idsR x0 i0)] (AV.map 0) (st x21_0_0) false)=some (bo false,[Ob.mapo (idsR x0 i0)]))
  (h3:callv X call false 15 [st x21_0_0] [Ob.mapo (idsR x0 i0)] 0=some (bo true,[Ob.mapo (idsR x0 i0)]))
  (h4:callv X call false 15 [st x21_0_1] [Ob.mapo (idsR x0 i0)] 0=some (bo true,[Ob.mapo (idsR x0 i0)]))
  (h5:(!ByteArray.toList x21_0_3 == ByteArray.toList (ByteArray.mk #[]))=true)
  (h6:callv X call false 15 [st x21_0_3] [Ob.mapo (idsR x0 i0)] 0=some (bo false,[Ob.mapo (idsR x0 i0)])):vexec Tryz.prog X call lf 0 fg38 (loopN Tryz.f6 0) (f38_F0 a0 x0 i0)=some (Ex.ret,(f38_S1 a0 x0 i0 x21_0_0 x21_0_1 x21_0_2 x21_0_3 m21_0_4 c21_0_4)) :=
  around_sound (ans:=[(1,Ans.b true),(4,Ans.v (AV.eaddr (st x21_0_0::st x21_0_1::st x21_0_2::st x21_0_3::lro m21_0_4 2 c21_0_4::r21))),(10,Ans.v (bo false)),(17,Ans.v (bo true)),(27,Ans.v (bo true)),(37,Ans.b true),(45,Ans.v (bo false))]) (by kernel_rfl) (ai h0 (ai h1 (ai h2 (ai h3 (ai h4 (ai h5 (ai h6 trivial)))))))
theorem f38_ptfltftttf (a0:List Lett) (x0:List Lexm) (X:Ext) (call:Caller) (lf:Nat) (i0:Nat) (x21_0_0:ByteArray) (x21_0_1:ByteArray) (x21_0_2:ByteArray) (x21_0_3:ByteArray) (m21_0_4:Nat) (c21_0_4:List AV)
  (h0:callv X call false 14 [lro (List.length a0) 2 (List.flatMap lettC a0)] [] 0=some (bo true,[]))
  (h1:decide ((↑(List.length x0):Int) > 256)=false)
  (h2:vexec Tryz.prog X call lf 0 fg38 (Code.loop (loopN Tryz.f6 0)) (f38_S0 a0 x0)=some (Ex.ret,(f38_S1 a0 x0 i0 x21_0_0 x21_0_1 x21_0_2 x21_0_3 m21_0_4 c21_0_4))):vbody Tryz.prog X call lf fg38 Tryz.f6 (codeOf Tryz.f6) [lettsV a0,lexsV x0] [] 0=some (bo false,[Ob.mapo (idsR x0 i0)]) :=
  along_sound (ans:=[(4,Ans.v (bo true)),(12,Ans.b false),(22,Ans.l Ex.ret (f38_S1 a0 x0 i0 x21_0_0 x21_0_1 x21_0_2 x21_0_3 m21_0_4 c21_0_4))]) (by kernel_rfl) (ai h0 (ai h1 (ai h2 trivial)))
theorem f38_s0_tfttftt (a0:List Lett) (x0:List Lexm) (X:Ext) (call:Caller) (lf:Nat) (i0:Nat) (x21_0_0:ByteArray) (x21_0_1:ByteArray) (x21_0_2:ByteArray) (x21_0_3:ByteArray) (m21_0_4:Nat) (c21_0_4:List AV) (r21:List AV) (sq74:List Ob)
  (h0:decide ((↑i0:Int) < (↑(List.length x0):Int))=true)
  (h1:keep [Ob.mapo (idsR x0 i0)] (indexAddrv Tryz.prog 23 [Ob.mapo (idsR x0 i0)] (lro (List.length x0) 5 (List.flatMap lexC x0)) (i6 (↑i0:Int)))=some (AV.eaddr (st x21_0_0::st x21_0_1::st x21_0_2::st x21_0_3::lro m21_0_4 2 c21_0_4::r21),[Ob.mapo (idsR x0 i0)]))
  (h2:keep [Ob.mapo (idsR x0 i0)] (lookupv Tryz.prog 43 [Ob.mapo (idsR x0 i0)] (AV.map 0) (st x21_0_0) false)=some (bo false,[Ob.mapo (idsR x0 i0)]))
  (h3:callv X call false 15 [st x21_0_0] [Ob.mapo (idsR x0 i0)] 0=some (bo true,[Ob.mapo (idsR x0 i0)]))
  (h4:callv X call false 15 [st x21_0_1] [Ob.mapo (idsR x0 i0)] 0=some (bo true,[Ob.mapo (idsR x0 i0)]))
  (h5:(!ByteArray.toList x21_0_3 == ByteArray.toList (ByteArray.mk #[]))=false)
  (h6:callv X call false 16 [lro (List.length a0) 2 (List.flatMap lettC a0),st x21_0_2] [Ob.mapo (idsR x0 i0)] 0=some (bo true,[Ob.mapo (idsR x0 i0)]))
  (h7:callv X call false 17 [lro m21_0_4 2 c21_0_4] [Ob.mapo (idsR x0 i0)] 0=some (bo true,[Ob.mapo (idsR x0 i0)]))
  (h8:unit1 (mapUpdatev Tryz.prog 43 [Ob.mapo (idsR x0 i0)] 0 (AV.map 0) (st x21_0_0) (bo true))=some (AV.undef,sq74))
  (e0:(↑(i0 + 1):Int)=w6 ((↑i0:Int) + 1))
  (e1:[Ob.mapo (idsR x0 (i0 + 1))]=sq74):∃ Sx,vexec Tryz.prog X call lf 0 fg38 (loopN Tryz.f6 0) (f38_F0 a0 x0 i0)=some (Ex.normal,Sx)∧forget f38_D0 Sx=(f38_F0 a0 x0 (i0 + 1)) :=
  ⟨stOf 67 [4,8,9,10,11,12,13,14,21,22,23,24,25,26,27,28,29,30,31,32,33,34,35,36,37,38,39,40,41,42,43,44,45,46,47,48,49,50,51,52,53,54,55,56,57,58,59,60,61,63,64,65,66] [(0,lro (List.length a0) 2 (List.flatMap lettC a0)),(1,lro (List.length x0) 5 (List.flatMap lexC x0)),(5,AV.map 0),(7,AV.eaddr [st x21_0_0,st x21_0_1,st x21_0_2,st x21_0_3,lro m21_0_4 2 c21_0_4]),(15,bo false),(16,AV.map 0),(17,lro (List.length x0) 5 (List.flatMap lexC x0)),(18,i6 (↑(List.length x0):Int)),(19,i6 (w6 ((↑i0:Int) + 1))),(20,bo true),(62,bo false)] sq74,around_sound (ans:=[(1,Ans.b true),(4,Ans.v (AV.eaddr (st x21_0_0::st x21_0_1::st x21_0_2::st x21_0_3::lro m21_0_4 2 c21_0_4::r21))),(10,Ans.v (bo false)),(17,Ans.v (bo true)),(27,Ans.v (bo true)),(37,Ans.b false),(55,Ans.v (bo true)),(65,Ans.v (bo true)),(74,Ans.c AV.undef sq74)]) (by kernel_rfl) (ai h0 (ai h1 (ai h2 (ai h3 (ai h4 (ai h5 (ai h6 (ai h7 (ai h8 trivial))))))))),by unfold f38_F0; rw [e0,e1]; show _=_; kernel_rfl⟩
theorem f38_r0_tfttftf (a0:List Lett) (x0:List Lexm) (X:Ext) (call:Caller) (lf:Nat) (i0:Nat) (x21_0_0:ByteArray) (x21_0_1:ByteArray) (x21_0_2:ByteArray) (x21_0_3:ByteArray) (m21_0_4:Nat) (c21_0_4:List AV) (r21:List AV)
  (h0:decide ((↑i0:Int) < (↑(List.length x0):Int))=true)
  (h1:keep [Ob.mapo (idsR x0 i0)] (indexAddrv Tryz.prog 23 [Ob.mapo (idsR x0 i0)] (lro (List.length x0) 5 (List.flatMap lexC x0)) (i6 (↑i0:Int)))=some (AV.eaddr (st x21_0_0::st x21_0_1::st x21_0_2::st x21_0_3::lro m21_0_4 2 c21_0_4::r21),[Ob.mapo (idsR x0 i0)]))
  (h2:keep [Ob.mapo (idsR x0 i0)] (lookupv Tryz.prog 43 [Ob.mapo (idsR x0 i0)] (AV.map 0) (st x21_0_0) false)=some (bo false,[Ob.mapo (idsR x0 i0)]))
  (h3:callv X call false 15 [st x21_0_0] [Ob.mapo (idsR x0 i0)] 0=some (bo true,[Ob.mapo (idsR x0 i0)]))
  (h4:callv X call false 15 [st x21_0_1] [Ob.mapo (idsR x0 i0)] 0=some (bo true,[Ob.mapo (idsR x0 i0)]))
  (h5:(!ByteArray.toList x21_0_3 == ByteArray.toList (ByteArray.mk #[]))=false)
  (h6:callv X call false 16 [lro (List.length a0) 2 (List.flatMap lettC a0),st x21_0_2] [Ob.mapo (idsR x0 i0)] 0=some (bo true,[Ob.mapo (idsR x0 i0)]))
  (h7:callv X call false 17 [lro m21_0_4 2 c21_0_4] [Ob.mapo (idsR x0 i0)] 0=some (bo false,[Ob.mapo (idsR x0 i0)])):vexec Tryz.prog X call lf 0 fg38 (loopN Tryz.f6 0) (f38_F0 a0 x0 i0)=some (Ex.ret,(f38_S1 a0 x0 i0 x21_0_0 x21_0_1 x21_0_2 x21_0_3 m21_0_4 c21_0_4)) :=
  around_sound (ans:=[(1,Ans.b true),(4,Ans.v (AV.eaddr (st x21_0_0::st x21_0_1::st x21_0_2::st x21_0_3::lro m21_0_4 2 c21_0_4::r21))),(10,Ans.v (bo false)),(17,Ans.v (bo true)),(27,Ans.v (bo true)),(37,Ans.b false),(55,Ans.v (bo true)),(65,Ans.v (bo false))]) (by kernel_rfl) (ai h0 (ai h1 (ai h2 (ai h3 (ai h4 (ai h5 (ai h6 (ai h7 trivial))))))))
theorem f38_ptfltfttftf (a0:List Lett) (x0:List Lexm) (X:Ext) (call:Caller) (lf:Nat) (i0:Nat) (x21_0_0:ByteArray) (x21_0_1:ByteArray) (x21_0_2:ByteArray) (x21_0_3:ByteArray) (m21_0_4:Nat) (c21_0_4:List AV)
  (h0:callv X call false 14 [lro (List.length a0) 2 (List.flatMap lettC a0)] [] 0=some (bo true,[]))
  (h1:decide ((↑(List.length x0):Int) > 256)=false)
  (h2:vexec Tryz.prog X call lf 0 fg38 (Code.loop (loopN Tryz.f6 0)) (f38_S0 a0 x0)=some (Ex.ret,(f38_S1 a0 x0 i0 x21_0_0 x21_0_1 x21_0_2 x21_0_3 m21_0_4 c21_0_4))):vbody Tryz.prog X call lf fg38 Tryz.f6 (codeOf Tryz.f6) [lettsV a0,lexsV x0] [] 0=some (bo false,[Ob.mapo (idsR x0 i0)]) :=
  along_sound (ans:=[(4,Ans.v (bo true)),(12,Ans.b false),(22,Ans.l Ex.ret (f38_S1 a0 x0 i0 x21_0_0 x21_0_1 x21_0_2 x21_0_3 m21_0_4 c21_0_4))]) (by kernel_rfl) (ai h0 (ai h1 (ai h2 trivial)))
theorem f38_r0_tfttff (a0:List Lett) (x0:List Lexm) (X:Ext) (call:Caller) (lf:Nat) (i0:Nat) (x21_0_0:ByteArray) (x21_0_1:ByteArray) (x21_0_2:ByteArray) (x21_0_3:ByteArray) (m21_0_4:Nat) (c21_0_4:List AV) (r21:List AV)
  (h0:decide ((↑i0:Int) < (↑(List.length x0):Int))=true)
  (h1:keep [Ob.mapo (idsR x0 i0)] (indexAddrv Tryz.prog 23 [Ob.mapo (idsR x0 i0)] (lro (List.length x0) 5 (List.flatMap lexC x0)) (i6 (↑i0:Int)))=some (AV.eaddr (st x21_0_0::st x21_0_1::st x21_0_2::st x21_0_3::lro m21_0_4 2 c21_0_4::r21),[Ob.mapo (idsR x0 i0)]))
  (h2:keep [Ob.mapo (idsR x0 i0)] (lookupv Tryz.prog 43 [Ob.mapo (idsR x0 i0)] (AV.map 0) (st x21_0_0) false)=some (bo false,[Ob.mapo (idsR x0 i0)]))
  (h3:callv X call false 15 [st x21_0_0] [Ob.mapo (idsR x0 i0)] 0=some (bo true,[Ob.mapo (idsR x0 i0)]))
  (h4:callv X call false 15 [st x21_0_1] [Ob.mapo (idsR x0 i0)] 0=some (bo true,[Ob.mapo (idsR x0 i0)]))
  (h5:(!ByteArray.toList x21_0_3 == ByteArray.toList (ByteArray.mk #[]))=false)
  (h6:callv X call false 16 [lro (List.length a0) 2 (List.flatMap lettC a0),st x21_0_2] [Ob.mapo (idsR x0 i0)] 0=some (bo false,[Ob.mapo (idsR x0 i0)])):vexec Tryz.prog X call lf 0 fg38 (loopN Tryz.f6 0) (f38_F0 a0 x0 i0)=some (Ex.ret,(f38_S1 a0 x0 i0 x21_0_0 x21_0_1 x21_0_2 x21_0_3 m21_0_4 c21_0_4)) :=
  around_sound (ans:=[(1,Ans.b true),(4,Ans.v (AV.eaddr (st x21_0_0::st x21_0_1::st x21_0_2::st x21_0_3::lro m21_0_4 2 c21_0_4::r21))),(10,Ans.v (bo false)),(17,Ans.v (bo true)),(27,Ans.v (bo true)),(37,Ans.b false),(55,Ans.v (bo false))]) (by kernel_rfl) (ai h0 (ai h1 (ai h2 (ai h3 (ai h4 (ai h5 (ai h6 trivial)))))))
theorem f38_ptfltfttff (a0:List Lett) (x0:List Lexm) (X:Ext) (call:Caller) (lf:Nat) (i0:Nat) (x21_0_0:ByteArray) (x21_0_1:ByteArray) (x21_0_2:ByteArray) (x21_0_3:ByteArray) (m21_0_4:Nat) (c21_0_4:List AV)
  (h0:callv X call false 14 [lro (List.length a0) 2 (List.flatMap lettC a0)] [] 0=some (bo true,[]))
  (h1:decide ((↑(List.length x0):Int) > 256)=false)
  (h2:vexec Tryz.prog X call lf 0 fg38 (Code.loop (loopN Tryz.f6 0)) (f38_S0 a0 x0)=some (Ex.ret,(f38_S1 a0 x0 i0 x21_0_0 x21_0_1 x21_0_2 x21_0_3 m21_0_4 c21_0_4))):vbody Tryz.prog X call lf fg38 Tryz.f6 (codeOf Tryz.f6) [lettsV a0,lexsV x0] [] 0=some (bo false,[Ob.mapo (idsR x0 i0)]) :=
  along_sound (ans:=[(4,Ans.v (bo true)),(12,Ans.b false),(22,Ans.l Ex.ret (f38_S1 a0 x0 i0 x21_0_0 x21_0_1 x21_0_2 x21_0_3 m21_0_4 c21_0_4))]) (by kernel_rfl) (ai h0 (ai h1 (ai h2 trivial)))
theorem f38_r0_tftf (a0:List Lett) (x0:List Lexm) (X:Ext) (call:Caller) (lf:Nat) (i0:Nat) (x21_0_0:ByteArray) (x21_0_1:ByteArray) (x21_0_2:ByteArray) (x21_0_3:ByteArray) (m21_0_4:Nat) (c21_0_4:List AV) (r21:List AV)
  (h0:decide ((↑i0:Int) < (↑(List.length x0):Int))=true)
  (h1:keep [Ob.mapo (idsR x0 i0)] (indexAddrv Tryz.prog 23 [Ob.mapo (idsR x0 i0)] (lro (List.length x0) 5 (List.flatMap lexC x0)) (i6 (↑i0:Int)))=some (AV.eaddr (st x21_0_0::st x21_0_1::st x21_0_2::st x21_0_3::lro m21_0_4 2 c21_0_4::r21),[Ob.mapo (idsR x0 i0)]))
  (h2:keep [Ob.mapo (idsR x0 i0)] (lookupv Tryz.prog 43 [Ob.mapo (idsR x0 i0)] (AV.map 0) (st x21_0_0) false)=some (bo false,[Ob.mapo (idsR x0 i0)]))
  (h3:callv X call false 15 [st x21_0_0] [Ob.mapo (idsR x0 i0)] 0=some (bo true,[Ob.mapo (idsR x0 i0)]))
  (h4:callv X call false 15 [st x21_0_1] [Ob.mapo (idsR x0 i0)] 0=some (bo false,[Ob.mapo (idsR x0 i0)])):vexec Tryz.prog X call lf 0 fg38 (loopN Tryz.f6 0) (f38_F0 a0 x0 i0)=some (Ex.ret,(f38_S1 a0 x0 i0 x21_0_0 x21_0_1 x21_0_2 x21_0_3 m21_0_4 c21_0_4)) :=
  around_sound (ans:=[(1,Ans.b true),(4,Ans.v (AV.eaddr (st x21_0_0::st x21_0_1::st x21_0_2::st x21_0_3::lro m21_0_4 2 c21_0_4::r21))),(10,Ans.v (bo false)),(17,Ans.v (bo true)),(27,Ans.v (bo false))]) (by kernel_rfl) (ai h0 (ai h1 (ai h2 (ai h3 (ai h4 trivial)))))
theorem f38_ptfltftf (a0:List Lett) (x0:List Lexm) (X:Ext) (call:Caller) (lf:Nat) (i0:Nat) (x21_0_0:ByteArray) (x21_0_1:ByteArray) (x21_0_2:ByteArray) (x21_0_3:ByteArray) (m21_0_4:Nat) (c21_0_4:List AV)
  (h0:callv X call false 14 [lro (List.length a0) 2 (List.flatMap lettC a0)] [] 0=some (bo true,[]))
  (h1:decide ((↑(List.length x0):Int) > 256)=false)
  (h2:vexec Tryz.prog X call lf 0 fg38 (Code.loop (loopN Tryz.f6 0)) (f38_S0 a0 x0)=some (Ex.ret,(f38_S1 a0 x0 i0 x21_0_0 x21_0_1 x21_0_2 x21_0_3 m21_0_4 c21_0_4))):vbody Tryz.prog X call lf fg38 Tryz.f6 (codeOf Tryz.f6) [lettsV a0,lexsV x0] [] 0=some (bo false,[Ob.mapo (idsR x0 i0)]) :=
  along_sound (ans:=[(4,Ans.v (bo true)),(12,Ans.b false),(22,Ans.l Ex.ret (f38_S1 a0 x0 i0 x21_0_0 x21_0_1 x21_0_2 x21_0_3 m21_0_4 c21_0_4))]) (by kernel_rfl) (ai h0 (ai h1 (ai h2 trivial)))
theorem f38_r0_tff (a0:List Lett) (x0:List Lexm) (X:Ext) (call:Caller) (lf:Nat) (i0:Nat) (x21_0_0:ByteArray) (x21_0_1:ByteArray) (x21_0_2:ByteArray) (x21_0_3:ByteArray) (m21_0_4:Nat) (c21_0_4:List AV) (r21:List AV)
  (h0:decide ((↑i0:Int) < (↑(List.length x0):Int))=true)
  (h1:keep [Ob.mapo (idsR x0 i0)] (indexAddrv Tryz.prog 23 [Ob.mapo (idsR x0 i0)] (lro (List.length x0) 5 (List.flatMap lexC x0)) (i6 (↑i0:Int)))=some (AV.eaddr (st x21_0_0::st x21_0_1::st x21_0_2::st x21_0_3::lro m21_0_4 2 c21_0_4::r21),[Ob.mapo (idsR x0 i0)]))
  (h2:keep [Ob.mapo (idsR x0 i0)] (lookupv Tryz.prog 43 [Ob.mapo (idsR x0 i0)] (AV.map 0) (st x21_0_0) false)=some (bo false,[Ob.mapo (idsR x0 i0)]))
  (h3:callv X call false 15 [st x21_0_0] [Ob.mapo (idsR x0 i0)] 0=some (bo false,[Ob.mapo (idsR x0 i0)])):vexec Tryz.prog X call lf 0 fg38 (loopN Tryz.f6 0) (f38_F0 a0 x0 i0)=some (Ex.ret,(f38_S1 a0 x0 i0 x21_0_0 x21_0_1 x21_0_2 x21_0_3 m21_0_4 c21_0_4)) :=
  around_sound (ans:=[(1,Ans.b true),(4,Ans.v (AV.eaddr (st x21_0_0::st x21_0_1::st x21_0_2::st x21_0_3::lro m21_0_4 2 c21_0_4::r21))),(10,Ans.v (bo false)),(17,Ans.v (bo false))]) (by kernel_rfl) (ai h0 (ai h1 (ai h2 (ai h3 trivial))))
theorem f38_ptfltff (a0:List Lett) (x0:List Lexm) (X:Ext) (call:Caller) (lf:Nat) (i0:Nat) (x21_0_0:ByteArray) (x21_0_1:ByteArray) (x21_0_2:ByteArray) (x21_0_3:ByteArray) (m21_0_4:Nat) (c21_0_4:List AV)
  (h0:callv X call false 14 [lro (List.length a0) 2 (List.flatMap lettC a0)] [] 0=some (bo true,[]))
  (h1:decide ((↑(List.length x0):Int) > 256)=false)
  (h2:vexec Tryz.prog X call lf 0 fg38 (Code.loop (loopN Tryz.f6 0)) (f38_S0 a0 x0)=some (Ex.ret,(f38_S1 a0 x0 i0 x21_0_0 x21_0_1 x21_0_2 x21_0_3 m21_0_4 c21_0_4))):vbody Tryz.prog X call lf fg38 Tryz.f6 (codeOf Tryz.f6) [lettsV a0,lexsV x0] [] 0=some (bo false,[Ob.mapo (idsR x0 i0)]) :=
  along_sound (ans:=[(4,Ans.v (bo true)),(12,Ans.b false),(22,Ans.l Ex.ret (f38_S1 a0 x0 i0 x21_0_0 x21_0_1 x21_0_2 x21_0_3 m21_0_4 c21_0_4))]) (by kernel_rfl) (ai h0 (ai h1 (ai h2 trivial)))
def f38_S2 (a0:List Lett) (x0:List Lexm) (i0:Nat):St :=
  stOf 67 [4,7,8,9,10,11,12,13,14,21,22,23,24,25,26,27,28,29,30,31,32,33,34,35,36,37,38,39,40,41,42,43,44,45,46,47,48,49,50,51,52,53,54,55,56,57,58,59,60,61,62,63,64,65,66] [(0,lro (List.length a0) 2 (List.flatMap lettC a0)),(1,lro (List.length x0) 5 (List.flatMap lexC x0)),(5,AV.map 0),(15,bo false),(16,AV.map 0),(17,lro (List.length x0) 5 (List.flatMap lexC x0)),(18,i6 (↑(List.length x0):Int)),(19,i6 (↑i0:Int)),(20,bo false)] [Ob.mapo (idsR x0 i0)]
theorem f38_r0_f (a0:List Lett) (x0:List Lexm) (X:Ext) (call:Caller) (lf:Nat) (i0:Nat)
  (h0:decide ((↑i0:Int) < (↑(List.length x0):Int))=false):vexec Tryz.prog X call lf 0 fg38 (loopN Tryz.f6 0) (f38_F0 a0 x0 i0)=some (Ex.exit 0,(f38_S2 a0 x0 i0)) :=
  around_sound (ans:=[(1,Ans.b false)]) (by kernel_rfl) (ai h0 trivial)
theorem f38_ptflf (a0:List Lett) (x0:List Lexm) (X:Ext) (call:Caller) (lf:Nat) (i0:Nat)
  (h0:callv X call false 14 [lro (List.length a0) 2 (List.flatMap lettC a0)] [] 0=some (bo true,[]))
  (h1:decide ((↑(List.length x0):Int) > 256)=false)
  (h2:vexec Tryz.prog X call lf 0 fg38 (Code.loop (loopN Tryz.f6 0)) (f38_S0 a0 x0)=some (Ex.exit 0,(f38_S2 a0 x0 i0))):vbody Tryz.prog X call lf fg38 Tryz.f6 (codeOf Tryz.f6) [lettsV a0,lexsV x0] [] 0=some (bo true,[Ob.mapo (idsR x0 i0)]) :=
  along_sound (ans:=[(4,Ans.v (bo true)),(12,Ans.b false),(22,Ans.l (Ex.exit 0) (f38_S2 a0 x0 i0))]) (by kernel_rfl) (ai h0 (ai h1 (ai h2 trivial)))
theorem f38_pf (a0:List Lett) (x0:List Lexm) (X:Ext) (call:Caller) (lf:Nat)
  (h0:callv X call false 14 [lro (List.length a0) 2 (List.flatMap lettC a0)] [] 0=some (bo false,[])):vbody Tryz.prog X call lf fg38 Tryz.f6 (codeOf Tryz.f6) [lettsV a0,lexsV x0] [] 0=some (bo false,[]) :=
  along_sound (ans:=[(4,Ans.v (bo false))]) (by kernel_rfl) (ai h0 trivial)
def f38_o0 (x0:List Lexm) (i0:Nat) (x21_0_3:ByteArray) (b0:Bool) (b1:Bool) (b2:Bool) (b3:Bool) (b4:Bool) (b5:Bool) (b6:Bool) (b7:Bool):Nat :=
  (match decide ((↑i0:Int) < (↑(List.length x0):Int)) with
  | true => (match b0 with
    | true=>1
    | false => (match b1 with
      | true => (match b2 with
        | true => (match (!ByteArray.toList x21_0_3 == ByteArray.toList (ByteArray.mk #[])) with
          | true => (match b3 with
            | true => (match b4 with
              | true => (match b5 with
                | true=>0
                | false=>1)
              | false=>1)
            | false=>1)
          | false => (match b6 with
            | true => (match b7 with
              | true=>0
              | false=>1)
            | false=>1))
        | false=>1)
      | false=>1))
  | false=>2)
theorem f38_B0 (a0:List Lett) (x0:List Lexm) (X:Ext) (call:Caller) (lf:Nat) (i0:Nat) (x21_0_0:ByteArray) (x21_0_1:ByteArray) (x21_0_2:ByteArray) (x21_0_3:ByteArray) (m21_0_4:Nat) (c21_0_4:List AV) (r21:List AV) (sq78:List Ob) (sq74:List Ob) (b0:Bool) (b1:Bool) (b2:Bool) (b3:Bool) (b4:Bool) (b5:Bool) (b6:Bool) (b7:Bool)
  (g0:decide ((↑i0:Int) < (↑(List.length x0):Int))=true→keep [Ob.mapo (idsR x0 i0)] (indexAddrv Tryz.prog 23 [Ob.mapo (idsR x0 i0)] (lro (List.length x0) 5 (List.flatMap lexC x0)) (i6 (↑i0:Int)))=some (AV.eaddr (st x21_0_0::st x21_0_1::st x21_0_2::st x21_0_3::lro m21_0_4 2 c21_0_4::r21),[Ob.mapo (idsR x0 i0)]))
  (g1:decide ((↑i0:Int) < (↑(List.length x0):Int))=true→keep [Ob.mapo (idsR x0 i0)] (lookupv Tryz.prog 43 [Ob.mapo (idsR x0 i0)] (AV.map 0) (st x21_0_0) false)=some (bo b0,[Ob.mapo (idsR x0 i0)]))
  (g2:decide ((↑i0:Int) < (↑(List.length x0):Int))=true→b0=false→callv X call false 15 [st x21_0_0] [Ob.mapo (idsR x0 i0)] 0=some (bo b1,[Ob.mapo (idsR x0 i0)]))
  (g3:decide ((↑i0:Int) < (↑(List.length x0):Int))=true→b0=false→b1=true→callv X call false 15 [st x21_0_1] [Ob.mapo (idsR x0 i0)] 0=some (bo b2,[Ob.mapo (idsR x0 i0)]))
  (g4:decide ((↑i0:Int) < (↑(List.length x0):Int))=true→b0=false→b1=true→b2=true→(!ByteArray.toList x21_0_3 == ByteArray.toList (ByteArray.mk #[]))=true→callv X call false 15 [st x21_0_3] [Ob.mapo (idsR x0 i0)] 0=some (bo b3,[Ob.mapo (idsR x0 i0)]))
  (g5:decide ((↑i0:Int) < (↑(List.length x0):Int))=true→b0=false→b1=true→b2=true→(!ByteArray.toList x21_0_3 == ByteArray.toList (ByteArray.mk #[]))=true→b3=true→callv X call false 16 [lro (List.length a0) 2 (List.flatMap lettC a0),st x21_0_2] [Ob.mapo (idsR x0 i0)] 0=some (bo b4,[Ob.mapo (idsR x0 i0)]))
  (g6:decide ((↑i0:Int) < (↑(List.length x0):Int))=true→b0=false→b1=true→b2=true→(!ByteArray.toList x21_0_3 == ByteArray.toList (ByteArray.mk #[]))=true→b3=true→b4=true→callv X call false 17 [lro m21_0_4 2 c21_0_4] [Ob.mapo (idsR x0 i0)] 0=some (bo b5,[Ob.mapo (idsR x0 i0)]))
  (g7:decide ((↑i0:Int) < (↑(List.length x0):Int))=true→b0=false→b1=true→b2=true→(!ByteArray.toList x21_0_3 == ByteArray.toList (ByteArray.mk #[]))=true→b3=true→b4=true→b5=true→unit1 (mapUpdatev Tryz.prog 43 [Ob.mapo (idsR x0 i0)] 0 (AV.map 0) (st x21_0_0) (bo true))=some (AV.undef,sq78))
  (g8:decide ((↑i0:Int) < (↑(List.length x0):Int))=true→b0=false→b1=true→b2=true→(!ByteArray.toList x21_0_3 == ByteArray.toList (ByteArray.mk #[]))=false→callv X call false 16 [lro (List.length a0) 2 (List.flatMap lettC a0),st x21_0_2] [Ob.mapo (idsR x0 i0)] 0=some (bo b6,[Ob.mapo (idsR x0 i0)]))
  (g9:decide ((↑i0:Int) < (↑(List.length x0):Int))=true→b0=false→b1=true→b2=true→(!ByteArray.toList x21_0_3 == ByteArray.toList (ByteArray.mk #[]))=false→b6=true→callv X call false 17 [lro m21_0_4 2 c21_0_4] [Ob.mapo (idsR x0 i0)] 0=some (bo b7,[Ob.mapo (idsR x0 i0)]))
  (g10:decide ((↑i0:Int) < (↑(List.length x0):Int))=true→b0=false→b1=true→b2=true→(!ByteArray.toList x21_0_3 == ByteArray.toList (ByteArray.mk #[]))=false→b6=true→b7=true→unit1 (mapUpdatev Tryz.prog 43 [Ob.mapo (idsR x0 i0)] 0 (AV.map 0) (st x21_0_0) (bo true))=some (AV.undef,sq74))
  (e0:decide ((↑i0:Int) < (↑(List.length x0):Int))=true→(↑(i0 + 1):Int)=w6 ((↑i0:Int) + 1))
  (e1:decide ((↑i0:Int) < (↑(List.length x0):Int))=true→b0=false→b1=true→b2=true→(!ByteArray.toList x21_0_3 == ByteArray.toList (ByteArray.mk #[]))=true→b3=true→b4=true→b5=true→[Ob.mapo (idsR x0 (i0 + 1))]=sq78)
  (e2 : decide ((↑i0 : Int) < (↑(List.length x0) : Int)) = true → b0 = false → b1 = true → b2 = true → (!ByteArray.toList x21_0_3 == ByteArray.toList (ByteArray.mk #[])) = false → b6 = true → b7 = true → [Ob.mapo (idsR x0 (i0 + 1))] = sq74) :
    (f38_o0 x0 i0 x21_0_3 b0 b1 b2 b3 b4 b5 b6 b7=0→∃ Sx,vexec Tryz.prog X call lf 0 fg38 (loopN Tryz.f6 0) (f38_F0 a0 x0 i0)=some (Ex.normal,Sx)∧forget f38_D0 Sx=(f38_F0 a0 x0 (i0 + 1)))∧(f38_o0 x0 i0 x21_0_3 b0 b1 b2 b3 b4 b5 b6 b7=1→vexec Tryz.prog X call lf 0 fg38 (loopN Tryz.f6 0) (f38_F0 a0 x0 i0)=some (Ex.ret,(f38_S1 a0 x0 i0 x21_0_0 x21_0_1 x21_0_2 x21_0_3 m21_0_4 c21_0_4)))∧(f38_o0 x0 i0 x21_0_3 b0 b1 b2 b3 b4 b5 b6 b7=2→vexec Tryz.prog X call lf 0 fg38 (loopN Tryz.f6 0) (f38_F0 a0 x0 i0)=some (Ex.exit 0,(f38_S2 a0 x0 i0))):=by
  unfold f38_o0
  cases c0:decide ((↑i0:Int) < (↑(List.length x0):Int)) with
  | true =>
    cases c1:b0 with
    | true =>
      exact ⟨fun h=>nq h,fun _=>f38_r0_tt a0 x0 X call lf i0 x21_0_0 x21_0_1 x21_0_2 x21_0_3 m21_0_4 c21_0_4 r21 c0 (g0 c0) (by have:=(g1 c0); rw [c1] at this; exact this),fun h=>nq h⟩
    | false =>
      cases c2:b1 with
      | true =>
        cases c3:b2 with
        | true =>
          cases c4:(!ByteArray.toList x21_0_3 == ByteArray.toList (ByteArray.mk #[])) with
          | true =>
            cases c5:b3 with
            | true =>
              cases c6:b4 with
              | true =>
                cases c7:b5 with
                | true =>
                  exact ⟨fun _=>f38_s0_tftttttt a0 x0 X call lf i0 x21_0_0 x21_0_1 x21_0_2 x21_0_3 m21_0_4 c21_0_4 r21 sq78 c0 (g0 c0) (by have:=(g1 c0); rw [c1] at this; exact this) (by have:=(g2 c0 c1); rw [c2] at this; exact this) (by have:=(g3 c0 c1 c2); rw [c3] at this; exact this) c4 (by have:=(g4 c0 c1 c2 c3 c4); rw [c5] at this; exact this) (by have:=(g5 c0 c1 c2 c3 c4 c5); rw [c6] at this; exact this) (by have:=(g6 c0 c1 c2 c3 c4 c5 c6); rw [c7] at this; exact this) (g7 c0 c1 c2 c3 c4 c5 c6 c7) (e0 c0) (e1 c0 c1 c2 c3 c4 c5 c6 c7),fun h=>nq h,fun h=>nq h⟩
                | false =>
                  exact ⟨fun h=>nq h,fun _=>f38_r0_tftttttf a0 x0 X call lf i0 x21_0_0 x21_0_1 x21_0_2 x21_0_3 m21_0_4 c21_0_4 r21 c0 (g0 c0) (by have:=(g1 c0); rw [c1] at this; exact this) (by have:=(g2 c0 c1); rw [c2] at this; exact this) (by have:=(g3 c0 c1 c2); rw [c3] at this; exact this) c4 (by have:=(g4 c0 c1 c2 c3 c4); rw [c5] at this; exact this) (by have:=(g5 c0 c1 c2 c3 c4 c5); rw [c6] at this; exact this) (by have:=(g6 c0 c1 c2 c3 c4 c5 c6); rw [c7] at this; exact this),fun h=>nq h⟩
              | false =>
                exact ⟨fun h=>nq h,fun _=>f38_r0_tfttttf a0 x0 X call lf i0 x21_0_0 x21_0_1 x21_0_2 x21_0_3 m21_0_4 c21_0_4 r21 c0 (g0 c0) (by have:=(g1 c0); rw [c1] at this; exact this) (by have:=(g2 c0 c1); rw [c2] at this; exact this) (by have:=(g3 c0 c1 c2); rw [c3] at this; exact this) c4 (by have:=(g4 c0 c1 c2 c3 c4); rw [c5] at this; exact this) (by have:=(g5 c0 c1 c2 c3 c4 c5); rw [c6] at this; exact this),fun h=>nq h⟩
            | false =>
              exact ⟨fun h=>nq h,fun _=>f38_r0_tftttf a0 x0 X call lf i0 x21_0_0 x21_0_1 x21_0_2 x21_0_3 m21_0_4 c21_0_4 r21 c0 (g0 c0) (by have:=(g1 c0); rw [c1] at this; exact this) (by have:=(g2 c0 c1); rw [c2] at this; exact this) (by have:=(g3 c0 c1 c2); rw [c3] at this; exact this) c4 (by have:=(g4 c0 c1 c2 c3 c4); rw [c5] at this; exact this),fun h=>nq h⟩
          | false =>
            cases c5:b6 with
            | true =>
              cases c6:b7 with
              | true =>
                exact ⟨fun _=>f38_s0_tfttftt a0 x0 X call lf i0 x21_0_0 x21_0_1 x21_0_2 x21_0_3 m21_0_4 c21_0_4 r21 sq74 c0 (g0 c0) (by have:=(g1 c0); rw [c1] at this; exact this) (by have:=(g2 c0 c1); rw [c2] at this; exact this) (by have:=(g3 c0 c1 c2); rw [c3] at this; exact this) c4 (by have:=(g8 c0 c1 c2 c3 c4); rw [c5] at this; exact this) (by have:=(g9 c0 c1 c2 c3 c4 c5); rw [c6] at this; exact this) (g10 c0 c1 c2 c3 c4 c5 c6) (e0 c0) (e2 c0 c1 c2 c3 c4 c5 c6),fun h=>nq h,fun h=>nq h⟩
              | false =>
                exact ⟨fun h=>nq h,fun _=>f38_r0_tfttftf a0 x0 X call lf i0 x21_0_0 x21_0_1 x21_0_2 x21_0_3 m21_0_4 c21_0_4 r21 c0 (g0 c0) (by have:=(g1 c0); rw [c1] at this; exact this) (by have:=(g2 c0 c1); rw [c2] at this; exact this) (by have:=(g3 c0 c1 c2); rw [c3] at this; exact this) c4 (by have:=(g8 c0 c1 c2 c3 c4); rw [c5] at this; exact this) (by have:=(g9 c0 c1 c2 c3 c4 c5); rw [c6] at this; exact this),fun h=>nq h⟩
            | false =>
              exact ⟨fun h=>nq h,fun _=>f38_r0_tfttff a0 x0 X call lf i0 x21_0_0 x21_0_1 x21_0_2 x21_0_3 m21_0_4 c21_0_4 r21 c0 (g0 c0) (by have:=(g1 c0); rw [c1] at this; exact this) (by have:=(g2 c0 c1); rw [c2] at this; exact this) (by have:=(g3 c0 c1 c2); rw [c3] at this; exact this) c4 (by have:=(g8 c0 c1 c2 c3 c4); rw [c5] at this; exact this),fun h=>nq h⟩
        | false =>
          exact ⟨fun h=>nq h,fun _=>f38_r0_tftf a0 x0 X call lf i0 x21_0_0 x21_0_1 x21_0_2 x21_0_3 m21_0_4 c21_0_4 r21 c0 (g0 c0) (by have:=(g1 c0); rw [c1] at this; exact this) (by have:=(g2 c0 c1); rw [c2] at this; exact this) (by have:=(g3 c0 c1 c2); rw [c3] at this; exact this),fun h=>nq h⟩
      | false =>
        exact ⟨fun h=>nq h,fun _=>f38_r0_tff a0 x0 X call lf i0 x21_0_0 x21_0_1 x21_0_2 x21_0_3 m21_0_4 c21_0_4 r21 c0 (g0 c0) (by have:=(g1 c0); rw [c1] at this; exact this) (by have:=(g2 c0 c1); rw [c2] at this; exact this),fun h=>nq h⟩
  | false =>
    exact ⟨fun h=>nq h,fun h=>nq h,fun _=>f38_r0_f a0 x0 X call lf i0 c0⟩
theorem f38_X0 (a0:List Lett) (x0:List Lexm) (X:Ext) (call:Caller) (lf:Nat) (i0:Nat) (x21_0_0:ByteArray) (x21_0_1:ByteArray) (x21_0_2:ByteArray) (x21_0_3:ByteArray) (m21_0_4:Nat) (c21_0_4:List AV) (r21:List AV) (sq78:List Ob) (sq74:List Ob) (b0:Bool) (b1:Bool) (b2:Bool) (b3:Bool) (b4:Bool) (b5:Bool) (b6:Bool) (b7:Bool)
  (g0:decide ((↑i0:Int) < (↑(List.length x0):Int))=true→keep [Ob.mapo (idsR x0 i0)] (indexAddrv Tryz.prog 23 [Ob.mapo (idsR x0 i0)] (lro (List.length x0) 5 (List.flatMap lexC x0)) (i6 (↑i0:Int)))=some (AV.eaddr (st x21_0_0::st x21_0_1::st x21_0_2::st x21_0_3::lro m21_0_4 2 c21_0_4::r21),[Ob.mapo (idsR x0 i0)]))
  (g1:decide ((↑i0:Int) < (↑(List.length x0):Int))=true→keep [Ob.mapo (idsR x0 i0)] (lookupv Tryz.prog 43 [Ob.mapo (idsR x0 i0)] (AV.map 0) (st x21_0_0) false)=some (bo b0,[Ob.mapo (idsR x0 i0)]))
  (g2:decide ((↑i0:Int) < (↑(List.length x0):Int))=true→b0=false→callv X call false 15 [st x21_0_0] [Ob.mapo (idsR x0 i0)] 0=some (bo b1,[Ob.mapo (idsR x0 i0)]))
  (g3:decide ((↑i0:Int) < (↑(List.length x0):Int))=true→b0=false→b1=true→callv X call false 15 [st x21_0_1] [Ob.mapo (idsR x0 i0)] 0=some (bo b2,[Ob.mapo (idsR x0 i0)]))
  (g4:decide ((↑i0:Int) < (↑(List.length x0):Int))=true→b0=false→b1=true→b2=true→(!ByteArray.toList x21_0_3 == ByteArray.toList (ByteArray.mk #[]))=true→callv X call false 15 [st x21_0_3] [Ob.mapo (idsR x0 i0)] 0=some (bo b3,[Ob.mapo (idsR x0 i0)]))
  (g5:decide ((↑i0:Int) < (↑(List.length x0):Int))=true→b0=false→b1=true→b2=true→(!ByteArray.toList x21_0_3 == ByteArray.toList (ByteArray.mk #[]))=true→b3=true→callv X call false 16 [lro (List.length a0) 2 (List.flatMap lettC a0),st x21_0_2] [Ob.mapo (idsR x0 i0)] 0=some (bo b4,[Ob.mapo (idsR x0 i0)]))
  (g6:decide ((↑i0:Int) < (↑(List.length x0):Int))=true→b0=false→b1=true→b2=true→(!ByteArray.toList x21_0_3 == ByteArray.toList (ByteArray.mk #[]))=true→b3=true→b4=true→callv X call false 17 [lro m21_0_4 2 c21_0_4] [Ob.mapo (idsR x0 i0)] 0=some (bo b5,[Ob.mapo (idsR x0 i0)]))
  (g7:decide ((↑i0:Int) < (↑(List.length x0):Int))=true→b0=false→b1=true→b2=true→(!ByteArray.toList x21_0_3 == ByteArray.toList (ByteArray.mk #[]))=true→b3=true→b4=true→b5=true→unit1 (mapUpdatev Tryz.prog 43 [Ob.mapo (idsR x0 i0)] 0 (AV.map 0) (st x21_0_0) (bo true))=some (AV.undef,sq78))
  (g8:decide ((↑i0:Int) < (↑(List.length x0):Int))=true→b0=false→b1=true→b2=true→(!ByteArray.toList x21_0_3 == ByteArray.toList (ByteArray.mk #[]))=false→callv X call false 16 [lro (List.length a0) 2 (List.flatMap lettC a0),st x21_0_2] [Ob.mapo (idsR x0 i0)] 0=some (bo b6,[Ob.mapo (idsR x0 i0)]))
  (g9:decide ((↑i0:Int) < (↑(List.length x0):Int))=true→b0=false→b1=true→b2=true→(!ByteArray.toList x21_0_3 == ByteArray.toList (ByteArray.mk #[]))=false→b6=true→callv X call false 17 [lro m21_0_4 2 c21_0_4] [Ob.mapo (idsR x0 i0)] 0=some (bo b7,[Ob.mapo (idsR x0 i0)]))
  (g10 : decide ((↑i0 : Int) < (↑(List.length x0) : Int)) = true → b0 = false → b1 = true → b2 = true → (!ByteArray.toList x21_0_3 == ByteArray.toList (ByteArray.mk #[])) = false → b6 = true → b7 = true → unit1 (mapUpdatev Tryz.prog 43 [Ob.mapo (idsR x0 i0)] 0 (AV.map 0) (st x21_0_0) (bo true)) = some (AV.undef, sq74)) :
    (f38_o0 x0 i0 x21_0_3 b0 b1 b2 b3 b4 b5 b6 b7=1→vexec Tryz.prog X call lf 0 fg38 (loopN Tryz.f6 0) (f38_F0 a0 x0 i0)=some (Ex.ret,(f38_S1 a0 x0 i0 x21_0_0 x21_0_1 x21_0_2 x21_0_3 m21_0_4 c21_0_4)))∧(f38_o0 x0 i0 x21_0_3 b0 b1 b2 b3 b4 b5 b6 b7=2→vexec Tryz.prog X call lf 0 fg38 (loopN Tryz.f6 0) (f38_F0 a0 x0 i0)=some (Ex.exit 0,(f38_S2 a0 x0 i0))):=by
  unfold f38_o0
  cases c0:decide ((↑i0:Int) < (↑(List.length x0):Int)) with
  | true =>
    cases c1:b0 with
    | true =>
      exact ⟨fun _=>f38_r0_tt a0 x0 X call lf i0 x21_0_0 x21_0_1 x21_0_2 x21_0_3 m21_0_4 c21_0_4 r21 c0 (g0 c0) (by have:=(g1 c0); rw [c1] at this; exact this),fun h=>nq h⟩
    | false =>
      cases c2:b1 with
      | true =>
        cases c3:b2 with
        | true =>
          cases c4:(!ByteArray.toList x21_0_3 == ByteArray.toList (ByteArray.mk #[])) with
          | true =>
            cases c5:b3 with
            | true =>
              cases c6:b4 with
              | true =>
                cases c7:b5 with
                | true =>
                  exact ⟨fun h=>nq h,fun h=>nq h⟩
                | false =>
                  exact ⟨fun _=>f38_r0_tftttttf a0 x0 X call lf i0 x21_0_0 x21_0_1 x21_0_2 x21_0_3 m21_0_4 c21_0_4 r21 c0 (g0 c0) (by have:=(g1 c0); rw [c1] at this; exact this) (by have:=(g2 c0 c1); rw [c2] at this; exact this) (by have:=(g3 c0 c1 c2); rw [c3] at this; exact this) c4 (by have:=(g4 c0 c1 c2 c3 c4); rw [c5] at this; exact this) (by have:=(g5 c0 c1 c2 c3 c4 c5); rw [c6] at this; exact this) (by have:=(g6 c0 c1 c2 c3 c4 c5 c6); rw [c7] at this; exact this),fun h=>nq h⟩
              | false =>
                exact ⟨fun _=>f38_r0_tfttttf a0 x0 X call lf i0 x21_0_0 x21_0_1 x21_0_2 x21_0_3 m21_0_4 c21_0_4 r21 c0 (g0 c0) (by have:=(g1 c0); rw [c1] at this; exact this) (by have:=(g2 c0 c1); rw [c2] at this; exact this) (by have:=(g3 c0 c1 c2); rw [c3] at this; exact this) c4 (by have:=(g4 c0 c1 c2 c3 c4); rw [c5] at this; exact this) (by have:=(g5 c0 c1 c2 c3 c4 c5); rw [c6] at this; exact this),fun h=>nq h⟩
            | false =>
              exact ⟨fun _=>f38_r0_tftttf a0 x0 X call lf i0 x21_0_0 x21_0_1 x21_0_2 x21_0_3 m21_0_4 c21_0_4 r21 c0 (g0 c0) (by have:=(g1 c0); rw [c1] at this; exact this) (by have:=(g2 c0 c1); rw [c2] at this; exact this) (by have:=(g3 c0 c1 c2); rw [c3] at this; exact this) c4 (by have:=(g4 c0 c1 c2 c3 c4); rw [c5] at this; exact this),fun h=>nq h⟩
          | false =>
            cases c5:b6 with
            | true =>
              cases c6:b7 with
              | true =>
                exact ⟨fun h=>nq h,fun h=>nq h⟩
              | false =>
                exact ⟨fun _=>f38_r0_tfttftf a0 x0 X call lf i0 x21_0_0 x21_0_1 x21_0_2 x21_0_3 m21_0_4 c21_0_4 r21 c0 (g0 c0) (by have:=(g1 c0); rw [c1] at this; exact this) (by have:=(g2 c0 c1); rw [c2] at this; exact this) (by have:=(g3 c0 c1 c2); rw [c3] at this; exact this) c4 (by have:=(g8 c0 c1 c2 c3 c4); rw [c5] at this; exact this) (by have:=(g9 c0 c1 c2 c3 c4 c5); rw [c6] at this; exact this),fun h=>nq h⟩
            | false =>
              exact ⟨fun _=>f38_r0_tfttff a0 x0 X call lf i0 x21_0_0 x21_0_1 x21_0_2 x21_0_3 m21_0_4 c21_0_4 r21 c0 (g0 c0) (by have:=(g1 c0); rw [c1] at this; exact this) (by have:=(g2 c0 c1); rw [c2] at this; exact this) (by have:=(g3 c0 c1 c2); rw [c3] at this; exact this) c4 (by have:=(g8 c0 c1 c2 c3 c4); rw [c5] at this; exact this),fun h=>nq h⟩
        | false =>
          exact ⟨fun _=>f38_r0_tftf a0 x0 X call lf i0 x21_0_0 x21_0_1 x21_0_2 x21_0_3 m21_0_4 c21_0_4 r21 c0 (g0 c0) (by have:=(g1 c0); rw [c1] at this; exact this) (by have:=(g2 c0 c1); rw [c2] at this; exact this) (by have:=(g3 c0 c1 c2); rw [c3] at this; exact this),fun h=>nq h⟩
      | false =>
        exact ⟨fun _=>f38_r0_tff a0 x0 X call lf i0 x21_0_0 x21_0_1 x21_0_2 x21_0_3 m21_0_4 c21_0_4 r21 c0 (g0 c0) (by have:=(g1 c0); rw [c1] at this; exact this) (by have:=(g2 c0 c1); rw [c2] at this; exact this),fun h=>nq h⟩
  | false =>
    exact ⟨fun h=>nq h,fun _=>f38_r0_f a0 x0 X call lf i0 c0⟩
theorem f38_M (a0:List Lett) (x0:List Lexm) (X:Ext) (call:Caller) (lf:Nat) (n:Nat) (x21_0_0:Nat→ByteArray) (x21_0_1:Nat→ByteArray) (x21_0_2:Nat→ByteArray) (x21_0_3:Nat→ByteArray) (m21_0_4:Nat→Nat) (c21_0_4:Nat→List AV) (r21:Nat→List AV) (sq78:Nat→List Ob) (sq74:Nat→List Ob) (b0:Nat→Bool) (b1:Nat→Bool) (b2:Nat→Bool) (b3:Nat→Bool) (b4:Nat→Bool) (b5:Nat→Bool) (b6:Nat→Bool) (b7:Nat→Bool)
  (hn:n < lf)
  (g0:∀ i0,i0 ≤ n→decide ((↑i0:Int) < (↑(List.length x0):Int))=true→keep [Ob.mapo (idsR x0 i0)] (indexAddrv Tryz.prog 23 [Ob.mapo (idsR x0 i0)] (lro (List.length x0) 5 (List.flatMap lexC x0)) (i6 (↑i0:Int)))=some (AV.eaddr (st (x21_0_0 i0)::st (x21_0_1 i0)::st (x21_0_2 i0)::st (x21_0_3 i0)::lro (m21_0_4 i0) 2 (c21_0_4 i0)::(r21 i0)),[Ob.mapo (idsR x0 i0)]))
  (g1:∀ i0,i0 ≤ n→decide ((↑i0:Int) < (↑(List.length x0):Int))=true→keep [Ob.mapo (idsR x0 i0)] (lookupv Tryz.prog 43 [Ob.mapo (idsR x0 i0)] (AV.map 0) (st (x21_0_0 i0)) false)=some (bo (b0 i0),[Ob.mapo (idsR x0 i0)]))
  (g2:∀ i0,i0 ≤ n→decide ((↑i0:Int) < (↑(List.length x0):Int))=true→(b0 i0)=false→callv X call false 15 [st (x21_0_0 i0)] [Ob.mapo (idsR x0 i0)] 0=some (bo (b1 i0),[Ob.mapo (idsR x0 i0)]))
  (g3:∀ i0,i0 ≤ n→decide ((↑i0:Int) < (↑(List.length x0):Int))=true→(b0 i0)=false→(b1 i0)=true→callv X call false 15 [st (x21_0_1 i0)] [Ob.mapo (idsR x0 i0)] 0=some (bo (b2 i0),[Ob.mapo (idsR x0 i0)]))
  (g4:∀ i0,i0 ≤ n→decide ((↑i0:Int) < (↑(List.length x0):Int))=true→(b0 i0)=false→(b1 i0)=true→(b2 i0)=true→(!ByteArray.toList (x21_0_3 i0) == ByteArray.toList (ByteArray.mk #[]))=true→callv X call false 15 [st (x21_0_3 i0)] [Ob.mapo (idsR x0 i0)] 0=some (bo (b3 i0),[Ob.mapo (idsR x0 i0)]))
  (g5:∀ i0,i0 ≤ n→decide ((↑i0:Int) < (↑(List.length x0):Int))=true→(b0 i0)=false→(b1 i0)=true→(b2 i0)=true→(!ByteArray.toList (x21_0_3 i0) == ByteArray.toList (ByteArray.mk #[]))=true→(b3 i0)=true→callv X call false 16 [lro (List.length a0) 2 (List.flatMap lettC a0),st (x21_0_2 i0)] [Ob.mapo (idsR x0 i0)] 0=some (bo (b4 i0),[Ob.mapo (idsR x0 i0)]))
  (g6:∀ i0,i0 ≤ n→decide ((↑i0:Int) < (↑(List.length x0):Int))=true→(b0 i0)=false→(b1 i0)=true→(b2 i0)=true→(!ByteArray.toList (x21_0_3 i0) == ByteArray.toList (ByteArray.mk #[]))=true→(b3 i0)=true→(b4 i0)=true→callv X call false 17 [lro (m21_0_4 i0) 2 (c21_0_4 i0)] [Ob.mapo (idsR x0 i0)] 0=some (bo (b5 i0),[Ob.mapo (idsR x0 i0)]))
  (g7:∀ i0,i0 ≤ n→decide ((↑i0:Int) < (↑(List.length x0):Int))=true→(b0 i0)=false→(b1 i0)=true→(b2 i0)=true→(!ByteArray.toList (x21_0_3 i0) == ByteArray.toList (ByteArray.mk #[]))=true→(b3 i0)=true→(b4 i0)=true→(b5 i0)=true→unit1 (mapUpdatev Tryz.prog 43 [Ob.mapo (idsR x0 i0)] 0 (AV.map 0) (st (x21_0_0 i0)) (bo true))=some (AV.undef,(sq78 i0)))
  (g8:∀ i0,i0 ≤ n→decide ((↑i0:Int) < (↑(List.length x0):Int))=true→(b0 i0)=false→(b1 i0)=true→(b2 i0)=true→(!ByteArray.toList (x21_0_3 i0) == ByteArray.toList (ByteArray.mk #[]))=false→callv X call false 16 [lro (List.length a0) 2 (List.flatMap lettC a0),st (x21_0_2 i0)] [Ob.mapo (idsR x0 i0)] 0=some (bo (b6 i0),[Ob.mapo (idsR x0 i0)]))
  (g9:∀ i0,i0 ≤ n→decide ((↑i0:Int) < (↑(List.length x0):Int))=true→(b0 i0)=false→(b1 i0)=true→(b2 i0)=true→(!ByteArray.toList (x21_0_3 i0) == ByteArray.toList (ByteArray.mk #[]))=false→(b6 i0)=true→callv X call false 17 [lro (m21_0_4 i0) 2 (c21_0_4 i0)] [Ob.mapo (idsR x0 i0)] 0=some (bo (b7 i0),[Ob.mapo (idsR x0 i0)]))
  (g10:∀ i0,i0 ≤ n→decide ((↑i0:Int) < (↑(List.length x0):Int))=true→(b0 i0)=false→(b1 i0)=true→(b2 i0)=true→(!ByteArray.toList (x21_0_3 i0) == ByteArray.toList (ByteArray.mk #[]))=false→(b6 i0)=true→(b7 i0)=true→unit1 (mapUpdatev Tryz.prog 43 [Ob.mapo (idsR x0 i0)] 0 (AV.map 0) (st (x21_0_0 i0)) (bo true))=some (AV.undef,(sq74 i0)))
  (e0:∀ i0,i0 < n→decide ((↑i0:Int) < (↑(List.length x0):Int))=true→(↑(i0 + 1):Int)=w6 ((↑i0:Int) + 1))
  (e1:∀ i0,i0 < n→decide ((↑i0:Int) < (↑(List.length x0):Int))=true→(b0 i0)=false→(b1 i0)=true→(b2 i0)=true→(!ByteArray.toList (x21_0_3 i0) == ByteArray.toList (ByteArray.mk #[]))=true→(b3 i0)=true→(b4 i0)=true→(b5 i0)=true→[Ob.mapo (idsR x0 (i0 + 1))]=(sq78 i0))
  (e2:∀ i0,i0 < n→decide ((↑i0:Int) < (↑(List.length x0):Int))=true→(b0 i0)=false→(b1 i0)=true→(b2 i0)=true→(!ByteArray.toList (x21_0_3 i0) == ByteArray.toList (ByteArray.mk #[]))=false→(b6 i0)=true→(b7 i0)=true→[Ob.mapo (idsR x0 (i0 + 1))]=(sq74 i0))
  (hz : ∀ j, j < n → f38_o0 x0 j (x21_0_3 j) (b0 j) (b1 j) (b2 j) (b3 j) (b4 j) (b5 j) (b6 j) (b7 j) = 0) :
    (f38_o0 x0 n (x21_0_3 n) (b0 n) (b1 n) (b2 n) (b3 n) (b4 n) (b5 n) (b6 n) (b7 n)=1→callv X call false 14 [lro (List.length a0) 2 (List.flatMap lettC a0)] [] 0=some (bo true,[])→decide ((↑(List.length x0):Int) > 256)=false→vbody Tryz.prog X call lf fg38 Tryz.f6 (codeOf Tryz.f6) [lettsV a0,lexsV x0] [] 0=some (bo false,[Ob.mapo (idsR x0 n)]))∧(f38_o0 x0 n (x21_0_3 n) (b0 n) (b1 n) (b2 n) (b3 n) (b4 n) (b5 n) (b6 n) (b7 n)=1→callv X call false 14 [lro (List.length a0) 2 (List.flatMap lettC a0)] [] 0=some (bo true,[])→decide ((↑(List.length x0):Int) > 256)=false→vbody Tryz.prog X call lf fg38 Tryz.f6 (codeOf Tryz.f6) [lettsV a0,lexsV x0] [] 0=some (bo false,[Ob.mapo (idsR x0 n)]))∧(f38_o0 x0 n (x21_0_3 n) (b0 n) (b1 n) (b2 n) (b3 n) (b4 n) (b5 n) (b6 n) (b7 n)=1→callv X call false 14 [lro (List.length a0) 2 (List.flatMap lettC a0)] [] 0=some (bo true,[])→decide ((↑(List.length x0):Int) > 256)=false→vbody Tryz.prog X call lf fg38 Tryz.f6 (codeOf Tryz.f6) [lettsV a0,lexsV x0] [] 0=some (bo false,[Ob.mapo (idsR x0 n)]))∧(f38_o0 x0 n (x21_0_3 n) (b0 n) (b1 n) (b2 n) (b3 n) (b4 n) (b5 n) (b6 n) (b7 n)=1→callv X call false 14 [lro (List.length a0) 2 (List.flatMap lettC a0)] [] 0=some (bo true,[])→decide ((↑(List.length x0):Int) > 256)=false→vbody Tryz.prog X call lf fg38 Tryz.f6 (codeOf Tryz.f6) [lettsV a0,lexsV x0] [] 0=some (bo false,[Ob.mapo (idsR x0 n)]))∧(f38_o0 x0 n (x21_0_3 n) (b0 n) (b1 n) (b2 n) (b3 n) (b4 n) (b5 n) (b6 n) (b7 n)=1→callv X call false 14 [lro (List.length a0) 2 (List.flatMap lettC a0)] [] 0=some (bo true,[])→decide ((↑(List.length x0):Int) > 256)=false→vbody Tryz.prog X call lf fg38 Tryz.f6 (codeOf Tryz.f6) [lettsV a0,lexsV x0] [] 0=some (bo false,[Ob.mapo (idsR x0 n)]))∧(f38_o0 x0 n (x21_0_3 n) (b0 n) (b1 n) (b2 n) (b3 n) (b4 n) (b5 n) (b6 n) (b7 n)=1→callv X call false 14 [lro (List.length a0) 2 (List.flatMap lettC a0)] [] 0=some (bo true,[])→decide ((↑(List.length x0):Int) > 256)=false→vbody Tryz.prog X call lf fg38 Tryz.f6 (codeOf Tryz.f6) [lettsV a0,lexsV x0] [] 0=some (bo false,[Ob.mapo (idsR x0 n)]))∧(f38_o0 x0 n (x21_0_3 n) (b0 n) (b1 n) (b2 n) (b3 n) (b4 n) (b5 n) (b6 n) (b7 n)=1→callv X call false 14 [lro (List.length a0) 2 (List.flatMap lettC a0)] [] 0=some (bo true,[])→decide ((↑(List.length x0):Int) > 256)=false→vbody Tryz.prog X call lf fg38 Tryz.f6 (codeOf Tryz.f6) [lettsV a0,lexsV x0] [] 0=some (bo false,[Ob.mapo (idsR x0 n)]))∧(f38_o0 x0 n (x21_0_3 n) (b0 n) (b1 n) (b2 n) (b3 n) (b4 n) (b5 n) (b6 n) (b7 n)=1→callv X call false 14 [lro (List.length a0) 2 (List.flatMap lettC a0)] [] 0=some (bo true,[])→decide ((↑(List.length x0):Int) > 256)=false→vbody Tryz.prog X call lf fg38 Tryz.f6 (codeOf Tryz.f6) [lettsV a0,lexsV x0] [] 0=some (bo false,[Ob.mapo (idsR x0 n)]))∧(f38_o0 x0 n (x21_0_3 n) (b0 n) (b1 n) (b2 n) (b3 n) (b4 n) (b5 n) (b6 n) (b7 n)=2→callv X call false 14 [lro (List.length a0) 2 (List.flatMap lettC a0)] [] 0=some (bo true,[])→decide ((↑(List.length x0):Int) > 256)=false→vbody Tryz.prog X call lf fg38 Tryz.f6 (codeOf Tryz.f6) [lettsV a0,lexsV x0] [] 0=some (bo true,[Ob.mapo (idsR x0 n)])):=by
  have key:∀ j,j < n→_:=fun j hj=>(f38_B0 a0 x0 X call lf j (x21_0_0 j) (x21_0_1 j) (x21_0_2 j) (x21_0_3 j) (m21_0_4 j) (c21_0_4 j) (r21 j) (sq78 j) (sq74 j) (b0 j) (b1 j) (b2 j) (b3 j) (b4 j) (b5 j) (b6 j) (b7 j) (g0 j (Nat.le_of_lt hj)) (g1 j (Nat.le_of_lt hj)) (g2 j (Nat.le_of_lt hj)) (g3 j (Nat.le_of_lt hj)) (g4 j (Nat.le_of_lt hj)) (g5 j (Nat.le_of_lt hj)) (g6 j (Nat.le_of_lt hj)) (g7 j (Nat.le_of_lt hj)) (g8 j (Nat.le_of_lt hj)) (g9 j (Nat.le_of_lt hj)) (g10 j (Nat.le_of_lt hj)) (e0 j hj) (e1 j hj) (e2 j hj)).1 (hz j hj)
  have kn:=f38_X0 a0 x0 X call lf n (x21_0_0 n) (x21_0_1 n) (x21_0_2 n) (x21_0_3 n) (m21_0_4 n) (c21_0_4 n) (r21 n) (sq78 n) (sq74 n) (b0 n) (b1 n) (b2 n) (b3 n) (b4 n) (b5 n) (b6 n) (b7 n) (g0 n (Nat.le_refl n)) (g1 n (Nat.le_refl n)) (g2 n (Nat.le_refl n)) (g3 n (Nat.le_refl n)) (g4 n (Nat.le_refl n)) (g5 n (Nat.le_refl n)) (g6 n (Nat.le_refl n)) (g7 n (Nat.le_refl n)) (g8 n (Nat.le_refl n)) (g9 n (Nat.le_refl n)) (g10 n (Nat.le_refl n))
  exact ⟨fun hk q0 q1 => f38_ptfltt a0 x0 X call lf n (x21_0_0 n) (x21_0_1 n) (x21_0_2 n) (x21_0_3 n) (m21_0_4 n) (c21_0_4 n) q0 q1 (f38_L0 a0 x0 X call lf n _ _ hn key (kn.1 hk) (by simp)),
    fun hk q0 q1=>f38_ptfltftttttf a0 x0 X call lf n (x21_0_0 n) (x21_0_1 n) (x21_0_2 n) (x21_0_3 n) (m21_0_4 n) (c21_0_4 n) q0 q1 (f38_L0 a0 x0 X call lf n _ _ hn key (kn.1 hk) (by simp)),
    fun hk q0 q1=>f38_ptfltfttttf a0 x0 X call lf n (x21_0_0 n) (x21_0_1 n) (x21_0_2 n) (x21_0_3 n) (m21_0_4 n) (c21_0_4 n) q0 q1 (f38_L0 a0 x0 X call lf n _ _ hn key (kn.1 hk) (by simp)),
    fun hk q0 q1=>f38_ptfltftttf a0 x0 X call lf n (x21_0_0 n) (x21_0_1 n) (x21_0_2 n) (x21_0_3 n) (m21_0_4 n) (c21_0_4 n) q0 q1 (f38_L0 a0 x0 X call lf n _ _ hn key (kn.1 hk) (by simp)),
    fun hk q0 q1=>f38_ptfltfttftf a0 x0 X call lf n (x21_0_0 n) (x21_0_1 n) (x21_0_2 n) (x21_0_3 n) (m21_0_4 n) (c21_0_4 n) q0 q1 (f38_L0 a0 x0 X call lf n _ _ hn key (kn.1 hk) (by simp)),
    fun hk q0 q1=>f38_ptfltfttff a0 x0 X call lf n (x21_0_0 n) (x21_0_1 n) (x21_0_2 n) (x21_0_3 n) (m21_0_4 n) (c21_0_4 n) q0 q1 (f38_L0 a0 x0 X call lf n _ _ hn key (kn.1 hk) (by simp)),
    fun hk q0 q1=>f38_ptfltftf a0 x0 X call lf n (x21_0_0 n) (x21_0_1 n) (x21_0_2 n) (x21_0_3 n) (m21_0_4 n) (c21_0_4 n) q0 q1 (f38_L0 a0 x0 X call lf n _ _ hn key (kn.1 hk) (by simp)),
    fun hk q0 q1=>f38_ptfltff a0 x0 X call lf n (x21_0_0 n) (x21_0_1 n) (x21_0_2 n) (x21_0_3 n) (m21_0_4 n) (c21_0_4 n) q0 q1 (f38_L0 a0 x0 X call lf n _ _ hn key (kn.1 hk) (by simp)),
    fun hk q0 q1=>f38_ptflf a0 x0 X call lf n q0 q1 (f38_L0 a0 x0 X call lf n _ _ hn key (kn.2 hk) (by simp))⟩
end Go.Proofs.Lex
end
/- Lexicon: Concat, Grow, and filter by a closure that captures nothing (printed) -/
section
open Go Go.Vm Go.Proofs
namespace Go.Proofs.Lex
end Go.Proofs.Lex
end
/- Lexicon: slices.Concat of two lists of lexemes. -/
section
open Go Go.Vm Go.Proofs
namespace Go.Proofs.Lex
section
variable [Fixed] {X:Ext}
end
end Go.Proofs.Lex
end
/- Lexicon: Merge, walked (printed) -/
section
open Go Go.Vm Go.Proofs
namespace Go.Proofs.Lex
end Go.Proofs.Lex
end
/- Lexicon: Merge, the program's and the reference's. -/
section
open Go Go.Vm Go.Proofs
namespace Go.Proofs.Lex
theorem lookEs_es (c:ByteArray):∀ (l:List ByteArray),lookupEs (st c) (esOf l)=some (if l.any (fun x=>decide (x=c))=true then some (bo true) else none)
  | []=>rfl
  | x :: l => by
    show lookupEs (st c) ((st x,bo true)::esOf l)=_
    unfold lookupEs
    rw [lookEs_es c l]
    by_cases h:c=x
    · subst h
      simp
    · have h' : ¬ x = c := fun e => h e.symm
      rw [List.any_cons,decide_eq_false h',Bool.false_or]
      simp only [if_neg h]
theorem look58 (c:ByteArray) (l:List ByteArray):keep [.mapo (esOf l)] (lookupv Tryz.prog 43 [.mapo (esOf l)] (.map 0) (st c) false)=some (bo (l.any fun x=>decide (x=c)),[.mapo (esOf l)]):=by
  have hu:Tryz.prog.underlying 43=some (.map 9 4):=by kernel_rfl
  have hz:zerov Tryz.prog 4=some (bo false):=by kernel_rfl
  unfold lookupv entriesOf
  rw [hu]
  simp only [Tryz.underlying9,List.getElem?_cons_zero,hz,lookEs_es]
  rw [if_pos (show isKey TypeDesc.string (st c)=true from rfl)]
  cases l.any fun x=>decide (x=c) <;> rfl
section
variable [Fixed] {X:Ext} {call:Caller} {lf:Nat}
end
end Go.Proofs.Lex
end
/- Lexicon: alphabets, told: ValidRune, indices, Valid; words. -/
section
open Go Go.Vm Go.Proofs
namespace Go.Proofs.Lex
/-- A rune that UTF-8 can write. -/
def validR (n:Int):Bool:=(decide (0 ≤ n) && decide (n < 55296)) || (decide (57343 < n) && decide (n ≤ 1114111))
def goodL (x:Lett):Bool := !decide (x.r ≤ 32) && validR x.r
/-- Whether letters are an alphabet. -/
def alphaF (a:List Lett):Bool:=decide (1 ≤ a.length) && (decide (a.length ≤ 64) && (a.all goodL && decide ((idxR a a.length).length=a.length)))
theorem under110:Tryz.prog.underlying 66=some (.map 21 3):=by kernel_rfl
theorem zero3:zerov Tryz.prog 3=some (i6 0):=by kernel_rfl
theorem look110 {l:List (Int × Nat)} {r:Int}:keep [.mapo (mapR l)] (lookupv Tryz.prog 66 [.mapo (mapR l)] (.map 0) (i3 r) true)=some (.tup [i6 (((l.find? fun e=>e.1 == r).map fun e=>(e.2:Int)).getD 0),bo (l.any fun e=>e.1 == r)],[.mapo (mapR l)]):=by
  have hu:=Tryz.underlying21
  unfold lookupv entriesOf
  rw [under110]
  simp only [hu,List.getElem?_cons_zero,zero3,look_E]
  rw [if_pos (show isKey (TypeDesc.int IntKind.i32) (i3 r)=true from rfl),← find_any]
  cases h:l.find? fun e=>e.1 == r <;> rfl
theorem put110 {l:List (Int × Nat)} {r:Int} {k:Nat} (h:(l.any fun e=>e.1 == r)=false):unit1 (mapUpdatev Tryz.prog 66 [.mapo (mapR l)] 0 (.map 0) (i3 r) (i6 (k:Int)))=some (.undef,[.mapo (mapR (l ++ [(r,k)]))]):=by
  have hu:=Tryz.underlying21
  unfold mapUpdatev
  rw [under110]
  simp only [hu,List.getElem?_cons_zero,put_E h]
  rw [if_pos ⟨show isKey (TypeDesc.int IntKind.i32) (i3 r)=true from rfl,Nat.le_refl _⟩]
  rfl
section
variable {X:Ext} {call:Caller} {lf:Nat}
/-- alphabet.indices. -/
theorem indices92 {a:List Lett} (hl:a.length ≤ big) (hlf:a.length < lf):vbody Tryz.prog X call lf fg92 Tryz.f36 (codeOf Tryz.f36) [lettsV a] [] 0=some (.map 0,[.mapo (mapR (idxR a a.length))]):=by
  have lt:∀ {i:Nat},decide ((i:Int) < (a.length:Int))=true→i < a.length:=fun h=>by have:=of_decide_eq_true h; omega
  refine f92_M a X call lf a.length (fun i => (nT a i).r) (fun i => (nT a i).c) (fun i => tT a i) (fun i => ((((idxR a i).find? fun e => e.1 == (nT a i).r).map fun e => (e.2 : Int)).getD 0)) (fun i => (idxR a i).any fun e => e.1 == (nT a i).r) (fun i => [.mapo (mapR (idxR a i ++ [((nT a i).r, i)]))]) hlf
    (fun i _ h=>at_lett (lt h)) (fun i _ _=>look110) (fun i _ _ h=>put110 h) (fun i _ h=>up (lt h) hl) (fun i _ _ h => ?_) (fun i _ _ h => ?_) (fun j hj => ?_) ?_
  · show [Ob.mapo (mapR (if _ then _ else _))] = _
    rw [if_pos h]
  · show [Ob.mapo (mapR (if _ then _ else _))] = _
    rw [if_neg (by rw [h]; simp)]
  · unfold f92_o0
    rw [decide_eq_true (by omega)]
    cases (idxR a j).any fun e=>e.1 == (nT a j).r <;> rfl
  · unfold f92_o0
    rw [decide_eq_false (by omega)]
end
theorem callv_fresh {X:Ext} {call:Caller} {f:FuncId} {vs:List AV} {r:AV} {s:List Ob} (h1:X.pureFn f=none) (h2:X.stFn f=none) (hl:AV.ltAll 0 vs=true) (h:call f vs [] 0=some (r,s)) (hp:r.pure=false):callv X call false f vs [] 0=some (unfr r,s):=by
  unfold callv
  rw [h1,h2]
  simp only [hl,if_true,h,hp,Bool.false_eq_true,if_false,freshRes]
section
variable [Fixed] {X:Ext}
theorem call91 (hX:ExtOk Tryz.prog X) (hL:XL X) (n:Int):CallAt Tryz.prog 35 [aR.enc n] [] 0 (aB.enc (validR n)) []:=by
  have hC:=callerOf_ok (SpecOk.none' (P:=Tryz.prog))
  have M:=f91_P0 n X (callerOf fun _ _=>none) 0
  have hq : f91_q0 n = if validR n then 0 else 1 := by
    unfold f91_q0 validR
    cases decide (0 ≤ n) <;> cases decide (n < 55296) <;> cases decide (57343 < n) <;> cases decide (n ≤ 1114111) <;> rfl
  cases h:validR n with
  | true=>exact run_res (B:=aB) hX hC (hL.dom 35 rfl rfl) Tryz.func35 (by kernel_rfl) (M.1 (by rw [hq,h]; rfl)) rfl
  | false=>exact run_res (B:=aB) hX hC (hL.dom 35 rfl rfl) Tryz.func35 (by kernel_rfl) (M.2 (by rw [hq,h]; rfl)) rfl
def V70:Go.Vm.Spec:=Go.Vm.Spec.on (fun _ _=>none) 35 (s1 aR aB validR fun _=>True)
theorem V70_ok (hX:ExtOk Tryz.prog X) (hL:XL X):SpecOk Tryz.prog V70:=SpecOk.s1 SpecOk.none' fun n _=>call91 hX hL n
theorem idx_call (hL:XL X) {T:Go.Vm.Spec} {a:List Lett} {lf:Nat} (hl:a.length ≤ big) (hlf:a.length < lf) (hT:T 36 [lettsV a]=none):callv X (vcallL Tryz.prog X T lf 1) false 36 [lettsV a] [] 0=some (.map 0,[.mapo (mapR (idxR a a.length))]):=by
  obtain ⟨a1,a2,a3⟩:=hL.ok 36 rfl
  refine callv_fresh (r := .map 0) a1 a2 ?_ ?_ rfl
  · have := aTs.lt a
    show (AV.lt 0 (lettsV a) && true)=true
    rw [show AV.lt 0 (lettsV a)=true from this]
    rfl
  · have hb : Tryz.f36.body = some (codeOf Tryz.f36) := by kernel_rfl
    simp only [vcallL,callerOf,hT,hL.dom 36 rfl rfl,if_true,Tryz.func36,hb]
    rw [hL.fg 36]
    exact indices92 hl hlf
/-- alphabet.Valid. -/
theorem call70 (hX:ExtOk Tryz.prog X) (hL:XL X) {a:List Lett} (hl:a.length ≤ big):CallAt Tryz.prog 14 [aTs.enc a] [] 0 (aB.enc (alphaF a)) []:=by
  have hC:=vcallL_ok hX (V70_ok hX hL) (a.length + 1) 1
  have hb:Tryz.f14.body=some (codeOf Tryz.f14):=by kernel_rfl
  by_cases h1:(a.length:Int) < 1
  · have : alphaF a = false := by
      unfold alphaF
      rw [decide_eq_false (by omega)]
      rfl
    rw [this]
    exact run_res (B:=aB) hX hC (hL.dom 14 rfl rfl) Tryz.func14 hb (f70_pt a X _ (a.length + 1) (decide_eq_true h1)) rfl
  by_cases h2:(a.length:Int) > 64
  · have : alphaF a = false := by
      unfold alphaF
      rw [decide_eq_true (show 1 ≤ a.length by omega),decide_eq_false (by omega)]
      rfl
    rw [this]
    exact run_res (B:=aB) hX hC (hL.dom 14 rfl rfl) Tryz.func14 hb (f70_pft a X _ (a.length + 1) (decide_eq_false h1) (decide_eq_true h2)) rfl
  have hbase : alphaF a = (a.all goodL && decide ((idxR a a.length).length = a.length)) := by
    unfold alphaF
    rw [decide_eq_true (show 1 ≤ a.length by omega),decide_eq_true (show a.length ≤ 64 by omega)]
    rfl
  have h91 : ∀ n : Int, callv X (vcallL Tryz.prog X V70 (a.length + 1) 1) false 35 [i3 n] [] 0 = some (bo (validR n), []) := fun n => by
    obtain ⟨a1,a2,a3⟩:=hL.ok 35 rfl
    exact call_onL (B:=aB) (y:=validR n) a1 a2 a3 rfl (s1_at (A:=aR) (B:=aB) (g:=validR) (ok:=fun _=>True) trivial)
  have lt:∀ {i:Nat},decide ((i:Int) < (a.length:Int))=true→i < a.length:=fun h=>by have:=of_decide_eq_true h; omega
  have M := fun n hn hz => f70_M a X (vcallL Tryz.prog X V70 (a.length + 1) 1) (a.length + 1) n (fun i => (nT a i).r) (fun i => (nT a i).c) (fun i => tT a i) (fun i => validR (nT a i).r) hn
    (fun i _ h=>at_lett (lt h)) (fun i _ _ _=>h91 _) (fun i _ h=>up (lt h) hl) hz
  have hz : ∀ j, j < a.length → goodL (nT a j) = true → f70_o0 a j (nT a j).r (validR (nT a j).r) = 0 := fun j hj hg => by
    unfold f70_o0
    rw [decide_eq_true (by omega)]
    unfold goodL at hg
    rw [Bool.and_eq_true,Bool.not_eq_true'] at hg
    simp only [hg.1,hg.2]
  rcases first_fail (p:=fun j=>goodL (nT a j)=true) a.length with hall | ⟨k,hk,hbad,hbef⟩
  · have ha : a.all goodL = true := all_nth.2 hall
    rw [hbase,ha,Bool.true_and]
    have m:=M a.length (Nat.lt_succ_self _) fun j hj=>hz j hj (hall j hj)
    have ho : f70_o0 a a.length (nT a a.length).r (validR (nT a a.length).r) = 2 := by
      unfold f70_o0
      rw [decide_eq_false (by omega)]
    have hi:=idx_call (X:=X) (T:=V70) (lf:=a.length + 1) hL hl (Nat.lt_succ_self _) rfl
    have hlen:(mapR (idxR a a.length)).length=(idxR a a.length).length:=List.length_map ..
    by_cases e:(idxR a a.length).length=a.length
    · rw [decide_eq_true e]
      exact run_res (B:=aB) hX hC (hL.dom 14 rfl rfl) Tryz.func14 hb (m.2.2.1 ho (decide_eq_false h1) (decide_eq_false h2) hi (by rw [hlen,e]; simp)) rfl
    · rw [decide_eq_false e]
      exact run_res (B:=aB) hX hC (hL.dom 14 rfl rfl) Tryz.func14 hb (m.2.2.2 ho (decide_eq_false h1) (decide_eq_false h2) hi (by rw [hlen]; exact beq_eq_false_iff_ne.2 (by omega))) rfl
  · have ha : a.all goodL = false := by
      rw [Bool.eq_false_iff]
      intro hc
      exact hbad (all_nth.1 hc k hk)
    rw [hbase,ha,Bool.false_and]
    have m:=M k (by omega) fun j hj=>hz j (by omega) (hbef j hj)
    have ho : f70_o0 a k (nT a k).r (validR (nT a k).r) = 1 := by
      unfold f70_o0
      rw [decide_eq_true (by omega)]
      unfold goodL at hbad
      cases h1:decide ((nT a k).r ≤ 32) with
      | true=>simp only
      | false =>
        rw [h1] at hbad
        simp only [Bool.not_false,Bool.true_and,Bool.not_eq_true] at hbad
        simp only [hbad]
    exact run_res (B:=aB) hX hC (hL.dom 14 rfl rfl) Tryz.func14 hb (m.1 ho (decide_eq_false h1) (decide_eq_false h2)) rfl
end
end Go.Proofs.Lex
end
/- Lexicon: words over an alphabet, told. -/
section
open Go Go.Vm Go.Proofs
namespace Go.Proofs.Lex
/-- The k-th letter of a string. -/
def rnS (s:ByteArray) (k:Nat):Int:=((Utf8.decode s (posR s k)).1:Int)
def okK (a:List Lett) (s:ByteArray) (k:Nat):Prop:=posR s k < s.size∧hasR a (rnS s k)=true
def wordW (a:List Lett) (s:ByteArray):Nat→Nat→Bool
  | 0,_=>false
  | n + 1,k=>if posR s k < s.size then (if hasR a (rnS s k) then wordW a s n (k + 1) else false) else decide ((k:Int) ≤ 40)
/-- Whether a string is a word. -/
def isWordF (a:List Lett) (s:ByteArray):Bool:=Lib.validD s.data.toList && wordW a s (s.size + 1) 0
theorem word_run (a:List Lett) (s:ByteArray):∀ (d j m:Nat),(∀ i,j ≤ i→i < j + d→okK a s i)→wordW a s (m + d) j=wordW a s m (j + d)
  | 0,j,m,_=>rfl
  | d + 1, j, m, h => by
    obtain ⟨h1,h2⟩:=h j (Nat.le_refl _) (by omega)
    show (if posR s j < s.size then (if hasR a (rnS s j) then wordW a s (m + d) (j + 1) else false) else decide ((j:Int) ≤ 40))=_
    rw [if_pos h1,if_pos h2,word_run a s d (j + 1) m fun i hi1 hi2=>h i (by omega) (by omega)]
    congr 1
    omega
theorem pos_ge (s:ByteArray):∀ k,(∀ j,j < k→posR s j < s.size)→k ≤ posR s k
  | 0,_=>Nat.le_refl _
  | k + 1, h => by
    have ih:=pos_ge s k fun j hj=>h j (by omega)
    have:=decode_pos s (posR s k) (h k (by omega))
    show k + 1 ≤ posR s k + (Utf8.decode s (posR s k)).2
    omega
theorem pos_le {s:ByteArray} {k:Nat} (h:∀ j,j < k→posR s j < s.size):k ≤ s.size:=by
  cases k with
  | zero=>exact Nat.zero_le _
  | succ k =>
    have:=pos_ge s k fun j hj=>h j (by omega)
    have:=h k (by omega)
    omega
theorem word_at {a:List Lett} {s:ByteArray} {k:Nat} (h:∀ j,j < k→okK a s j):wordW a s (s.size + 1) 0=wordW a s (s.size - k + 1) k:=by
  have hk:=pos_le fun j hj=>(h j hj).1
  have:=word_run a s k 0 (s.size - k + 1) fun i _ hi=>h i (by omega)
  rw [Nat.zero_add] at this
  rw [← this]
  congr 1
  omega
theorem word_end {a:List Lett} {s:ByteArray} {k:Nat} (h:∀ j,j < k→okK a s j) (he : ¬ posR s k < s.size):wordW a s (s.size + 1) 0=decide ((k:Int) ≤ 40):=by
  rw [word_at h]
  show (if _ then _ else _)=_
  rw [if_neg he]
theorem word_bad {a:List Lett} {s:ByteArray} {k:Nat} (h:∀ j,j < k→okK a s j) (he:posR s k < s.size) (hb:hasR a (rnS s k)=false):wordW a s (s.size + 1) 0=false:=by
  rw [word_at h]
  show (if _ then (if _ then _ else _) else _)=_
  rw [if_pos he,if_neg (by rw [hb]; simp)]
/-- .. and utf8.ValidString is told. -/
structure XV [Fixed] (X:Ext):Prop extends XM X where
  valid:X.pureFn 37=some validFn
/-! ### the walk -/
def rgF (fn:Func) (k:Nat):Code := .region k (opsF fn k) false
def bodyC (fn:Func):Code := .block 1 (.seq (rgF fn 6) (.seq (.seq (rgF fn 7) (.seq (rgF fn 8) (.cond (.tmp 28) (.seq (rgF fn 9) .ret) .skip))) (rgF fn 10)))
def wordC (fn:Func):Code := .seq (rgF fn 0) (.seq (.seq (rgF fn 1) (.cond (.tmp 13) (.seq (rgF fn 2) .ret) .skip)) (.seq (rgF fn 3) (.seq (.seq (rgF fn 4) (.block 0 (.loop (.seq (rgF fn 5) (.seq (.cond (.tmp 19) .skip (.exit 0)) (bodyC fn)))))) (.seq (rgF fn 11) .ret))))
theorem body71:Tryz.f16.body=some (wordC Tryz.f16):=by kernel_rfl
def dk71:List Nat:=[8,9,10,18,19,20,21,22,23,24,25,26,27,28,29,30]
def A71 (a:List Lett) (s:ByteArray):St:=stOf 33 [] [(0,lettsV a),(1,st s),(4,bo false)] []
def B71 (a:List Lett) (s:ByteArray):St:=stOf 33 [] [(0,lettsV a),(1,st s),(4,bo false),(11,st s),(12,bo true),(13,bo false)] []
def C71 (a:List Lett) (s:ByteArray) (M:List (AV × AV)):St:=stOf 33 [] [(0,lettsV a),(1,st s),(4,bo false),(5,.map 0),(6,i6 0),(11,st s),(12,bo true),(13,bo false),(14,lettsV a),(15,.map 0)] [.mapo M]
def D71 (a:List Lett) (s:ByteArray) (M:List (AV × AV)):St:=stOf 33 [] [(0,lettsV a),(1,st s),(4,bo false),(5,.map 0),(6,i6 0),(11,st s),(12,bo true),(13,bo false),(14,lettsV a),(15,.map 0),(16,st s)] [.mapo M]
def F71 (a:List Lett) (s:ByteArray) (M:List (AV × AV)) (n:Int) (r:Nat):St:=stOf 33 dk71 [(0,lettsV a),(1,st s),(4,bo false),(5,.map 0),(6,i6 n),(11,st s),(12,bo true),(13,bo false),(14,lettsV a),(15,.map 0),(16,st s),(17,ptrV r)] [.mapo M]
def G71 (a:List Lett) (s:ByteArray) (M:List (AV × AV)) (n:Int) (r:Nat) (p:Nat) (z:Int):St:=⟨setN (setN (F71 a s M n r).tmps 18 (.tup [bo true,i6 p,i3 z])) 19 (bo true),(F71 a s M n r).st⟩
section
variable {X:Ext} {call:Caller} {lf:Nat}
theorem r71_0 (a:List Lett) (s:ByteArray):vexec Tryz.prog X call lf 0 noFg (rgF Tryz.f16 0) (stOf 33 [] [(0,lettsV a),(1,st s)] [])=some (.normal,A71 a s):=by show _=_; kernel_rfl
theorem r71_1 (a:List Lett) (s:ByteArray) (h:callv X call false 37 [st s] [] 0=some (bo true,[])):vexec Tryz.prog X call lf 0 noFg (.seq (rgF Tryz.f16 1) (.cond (.tmp 13) (.seq (rgF Tryz.f16 2) .ret) .skip)) (A71 a s)=some (.normal,B71 a s) :=
  around_sound (ans:=[(2,Ans.v (bo true))]) (by kernel_rfl) (And.intro h trivial)
theorem r71_3 (a:List Lett) (s:ByteArray) (M:List (AV × AV)) (h:callv X call false 36 [lettsV a] [] 0=some (.map 0,[.mapo M])):vexec Tryz.prog X call lf 0 noFg (rgF Tryz.f16 3) (B71 a s)=some (.normal,C71 a s M) :=
  around_sound (ans:=[(2,Ans.c (.map 0) [.mapo M])]) (by kernel_rfl) (And.intro h trivial)
theorem r71_bt (a:List Lett) (s:ByteArray) (M:List (AV × AV)) (n:Int) (r p:Nat) (z q:Int) (h:keep [.mapo M] (lookupv Tryz.prog 66 [.mapo M] (.map 0) (i3 z) true)=some (.tup [i6 q,bo true],[.mapo M])) :
    ∃ T,vexec Tryz.prog X call lf 0 noFg (bodyC Tryz.f16) (G71 a s M n r p z)=some (.normal,T)∧forget dk71 T=F71 a s M (w6 (n + 1)) r :=
  ⟨stOf 33 [] [(0,lettsV a),(1,st s),(5,.map 0),(11,st s),(12,bo true),(13,bo false),(14,lettsV a),(15,.map 0),(16,st s),(17,ptrV r),(4,bo false),(6,i6 (w6 (n + 1))),(8,i3 z),(9,i6 q),(10,bo true),(18,.tup [bo true,i6 p,i3 z]),(19,bo true),(20,i3 z),(21,.tup [i6 q,bo true]),(22,.map 0),(23,i3 z),(24,.tup [i6 q,bo true]),(25,i6 q),(26,bo true),(27,bo true),(28,bo false),(29,i6 n),(30,i6 (w6 (n + 1)))] [.mapo M],around_sound (ans:=[(6,Ans.v (.tup [i6 q,bo true]))]) (by kernel_rfl) (And.intro h trivial),by show _=_; kernel_rfl⟩
theorem r71_bf (a:List Lett) (s:ByteArray) (M:List (AV × AV)) (n:Int) (r p:Nat) (z q:Int) (h:keep [.mapo M] (lookupv Tryz.prog 66 [.mapo M] (.map 0) (i3 z) true)=some (.tup [i6 q,bo false],[.mapo M])) :
    ∃ T,vexec Tryz.prog X call lf 0 noFg (bodyC Tryz.f16) (G71 a s M n r p z)=some (.ret,T)∧nth T.tmps 4=bo false :=
  ⟨stOf 33 [29,30] [(0,lettsV a),(1,st s),(5,.map 0),(11,st s),(12,bo true),(13,bo false),(14,lettsV a),(15,.map 0),(16,st s),(17,ptrV r),(4,bo false),(6,i6 n),(8,i3 z),(9,i6 q),(10,bo false),(18,.tup [bo true,i6 p,i3 z]),(19,bo true),(20,i3 z),(21,.tup [i6 q,bo false]),(22,.map 0),(23,i3 z),(24,.tup [i6 q,bo false]),(25,i6 q),(26,bo false),(27,bo false),(28,bo true)] [.mapo M],around_sound (ans:=[(6,Ans.v (.tup [i6 q,bo false]))]) (by kernel_rfl) (And.intro h trivial),by show _=_; kernel_rfl⟩
theorem r71_11 (a:List Lett) (s:ByteArray) (M:List (AV × AV)) (n:Int) (r:Nat) :
    ∃ T,vexec Tryz.prog X call lf 0 noFg (.seq (rgF Tryz.f16 11) .ret) ⟨setN (setN (F71 a s M n r).tmps 18 (.tup [bo false])) 19 (bo false),(F71 a s M n r).st⟩=some (.ret,T)∧nth T.tmps 4=bo (decide (n ≤ 40)) :=
  ⟨stOf 33 [8,9,10,20,21,22,23,24,25,26,27,28,29,30] [(0,lettsV a),(1,st s),(5,.map 0),(11,st s),(12,bo true),(13,bo false),(14,lettsV a),(15,.map 0),(16,st s),(17,ptrV r),(4,bo (decide (n ≤ 40))),(6,i6 n),(18,.tup [bo false]),(19,bo false),(31,i6 n),(32,bo (decide (n ≤ 40)))] [.mapo M],by show _=_; kernel_rfl,by show _=_; kernel_rfl⟩
theorem ops71_4:(opsF Tryz.f16 4).toList=[opF Tryz.f16 4 0] ++ [opF Tryz.f16 4 1]:=by kernel_rfl
theorem ops71_5:(opsF Tryz.f16 5).toList=[opF Tryz.f16 5 0,opF Tryz.f16 5 1]:=by kernel_rfl
theorem f71_bad (a:List Lett) (s:ByteArray) (h:callv X call false 37 [st s] [] 0=some (bo false,[])):vbody Tryz.prog X call lf noFg Tryz.f16 (codeOf Tryz.f16) [lettsV a,st s] [] 0=some (bo false,[]) :=
  along_sound (ans:=[(4,Ans.v (bo false))]) (by kernel_rfl) (And.intro h trivial)
end
section
variable [Fixed] {X:Ext}
theorem run71 (hX:ExtOk Tryz.prog X) {call:Caller} (hC:CallOk Tryz.prog call) (a:List Lett) (s:ByteArray) (hs:s.size ≤ big) :
    RunAt Tryz.prog X call 0 [] (opsF Tryz.f16 4) (opsF Tryz.f16 5) (bodyC Tryz.f16) 19 (C71 a s (mapR (idxR a a.length))) s dk71 (fun k r => F71 a s (mapR (idxR a a.length)) k r) 18 (fun k => ∀ j, j < k → okK a s j)
      (fun T=>nth T.tmps 4=bo false∧∃ k,(∀ j,j < k→okK a s j)∧posR s k < s.size∧hasR a (rnS s k)=false):=by
  generalize hM:mapR (idxR a a.length)=M
  refine ⟨⟨[opF Tryz.f16 4 0],opF Tryz.f16 4 1,9,.tmp 16,D71 a s M,17,opF Tryz.f16 5 0,opF Tryz.f16 5 1,ops71_4,?_,by kernel_rfl,by kernel_rfl,by kernel_rfl,Tryz.underlying9,?_,ops71_5,by kernel_rfl,by kernel_rfl,by kernel_rfl,by kernel_rfl,by kernel_rfl,by kernel_rfl,?_,?_,?_⟩,fun j hj=>absurd hj (Nat.not_lt_zero _),?_⟩
  · show _=_; kernel_rfl
  · show _=_; kernel_rfl
  · intro r; show _=_; kernel_rfl
  · intro k r; show _=_; kernel_rfl
  · intro k r
    have:(F71 a s M k r).tmps.length=33:=by show _=_; kernel_rfl
    exact ⟨by rw [this]; decide,by rw [this]; decide⟩
  · intro k r hI hpos
    have hk:=pos_ge s k fun j hj=>(hI j hj).1
    have hlook:=look110 (l:=idxR a a.length) (r:=rnS s k)
    rw [hM] at hlook
    cases hb:hasR a (rnS s k) with
    | true =>
      rw [show ((idxR a a.length).any fun e=>e.1 == rnS s k)=true from hb] at hlook
      obtain ⟨T,h1,h2⟩:=r71_bt (X:=X) (call:=call) (lf:=0) a s M (k:Int) r (posR s k) (rnS s k) _ hlook
      refine (SR.exec hX hC (lf:=0) (fg:=noFg) (by kernel_rfl) h1).mono ?_
      rintro x T' ⟨rfl,rfl⟩
      refine .inl ⟨rfl,fun j hj => ?_,?_⟩
      · by_cases e : j = k
        · subst e; exact ⟨hpos,hb⟩
        · exact hI j (by omega)
      · rw [h2,← up (i:=k) (n:=s.size) (by omega) hs]
    | false =>
      rw [show ((idxR a a.length).any fun e=>e.1 == rnS s k)=false from hb] at hlook
      obtain ⟨T,h1,h2⟩:=r71_bf (X:=X) (call:=call) (lf:=0) a s M (k:Int) r (posR s k) (rnS s k) _ hlook
      refine (SR.exec hX hC (lf:=0) (fg:=noFg) (by kernel_rfl) h1).mono ?_
      rintro x T' ⟨rfl,rfl⟩
      exact .inr ⟨rfl,h2,k,hI,hpos,hb⟩
theorem vend71 (T:St) (b:Bool) (h:nth T.tmps 4=bo b):vend Tryz.prog Tryz.f16 [] 0 T=some (bo b,T.st):=by
  have hr:resultsv Tryz.prog T Tryz.f16.results.toList=some [nth T.tmps 4]:=by kernel_rfl
  unfold vend
  rw [hr,h]
  exact vend1_plain rfl
/-- alphabet.IsWord. -/
theorem call71 (hX:ExtOk Tryz.prog X) (hM:XV X) {a:List Lett} {s:ByteArray} (hl:a.length ≤ big) (hs:s.size ≤ big):CallAt Tryz.prog 16 [aTs.enc a,aS.enc s] [] 0 (aB.enc (isWordF a s)) []:=by
  have hL:=hM.toXM.toXL
  have hC:=vcallL_ok hX (SpecOk.none' (P:=Tryz.prog)) (a.length + 1) 1
  have h93 : ∀ b, Lib.validD s.data.toList = b → callv X (vcallL Tryz.prog X (fun _ _ => none) (a.length + 1) 1) false 37 [st s] [] 0 = some (bo b, []) := fun b hb => by
    refine call_pure hM.valid rfl rfl rfl ?_
    unfold validFn
    have hs' : s.size ≤ 140737488355328:=hs
    rw [← hb]
    exact if_pos (by omega)
  unfold isWordF
  cases hv:Lib.validD s.data.toList with
  | false=>exact run_res (B:=aB) hX hC (hL.dom 16 rfl rfl) Tryz.func16 (by kernel_rfl) (f71_bad (lf:=0) a s (h93 false hv)) rfl
  | true =>
    rw [Bool.true_and]
    refine call_rel (B:=aB) (fn:=Tryz.f16) (c:=wordC Tryz.f16) (R:=fun x T=>x = .ret∧nth T.tmps 4=bo (wordW a s (s.size + 1) 0)) Tryz.func16 body71 (of_decide_eq_false (by kernel_rfl)) ?_ ?_
    · refine SR.seq (SR.exec hX hC (lf := 0) (fg := noFg) (by kernel_rfl) (r71_0 a s)) (fun T hT => ?_) (fun z T hz hh => absurd hh.1 hz)
      obtain ⟨-,rfl⟩:=hT
      refine SR.seq (SR.exec hX hC (lf:=0) (fg:=noFg) (by kernel_rfl) (r71_1 a s (h93 true hv))) (fun T hT => ?_) (fun z T hz hh=>absurd hh.1 hz)
      obtain ⟨-,rfl⟩:=hT
      refine SR.seq (SR.exec hX hC (lf:=0) (fg:=noFg) (by kernel_rfl) (r71_3 a s _ (idx_call hL hl (Nat.lt_succ_self _) rfl))) (fun T hT => ?_) (fun z T hz hh=>absurd hh.1 hz)
      obtain ⟨-,rfl⟩:=hT
      refine SR.seq (SR.rangeS hX hC (run71 hX hC a s hs)) (fun T hT => ?_) (fun z T hz hh => ?_)
      · rcases hT with ⟨-, k, r, hI, hpos, rfl⟩ | ⟨h, -⟩
        · obtain ⟨T', h1, h2⟩ := r71_11 (X := X) (call := vcallL Tryz.prog X (fun _ _ => none) (a.length + 1) 1) (lf := 0) a s (mapR (idxR a a.length)) (k : Int) r
          refine (SR.exec hX hC (lf:=0) (fg:=noFg) (by kernel_rfl) h1).mono ?_
          rintro x T'' ⟨rfl,rfl⟩
          exact ⟨rfl,by rw [h2,word_end hI hpos]⟩
        · cases h
      · rcases hh with ⟨h, -⟩ | ⟨rfl, h4, k, hI, hpos, hb⟩
        · exact absurd h hz
        · exact ⟨rfl,by rw [h4,word_bad hI hpos hb]⟩
    · rintro x T ⟨rfl, h4⟩
      exact ⟨.inr rfl,bo _,T.st,vend71 T _ h4,rfl⟩
end
end Go.Proofs.Lex
end
/- Lexicon: Merge told; the law. -/
section
open Go Go.Vm Go.Proofs
namespace Go.Proofs.Lex
section
variable [Fixed] {X:Ext}
theorem put58e (c:ByteArray) (l:List ByteArray):unit1 (mapUpdatev Tryz.prog 43 [.mapo (esOf l)] 0 (.map 0) (st c) (bo true))=some (.undef,[.mapo (esOf (putS l c))]):=put58 c l
end
end Go.Proofs.Lex
end
/- Lexicon: the small functions of the reference: a field, a word, a byte's place. -/
section
open Go Go.Vm Go.Proofs
namespace Go.Proofs.Lex
def mkB (l:List UInt8):ByteArray:=⟨l.toArray⟩
theorem mkB_self (s:ByteArray):mkB s.data.toList=s:=by unfold mkB; simp
theorem ex_mk (s:ByteArray) (i j:Nat):s.extract i j=mkB ((s.data.toList.take j).drop i):=by
  rw [← ex_list,mkB_self]
theorem size_list (s:ByteArray):s.size=s.data.toList.length:=by simp
section
variable {X:Ext} {call:Caller} {lf:Nat}
theorem slcM {s:ByteArray} {i k:Nat} {dr:Bool} {σ:List Ob} (h:k ≤ s.size) (hi:i ≤ k):slc Tryz.prog 9 σ dr 0 (st s) (some (i6 (i:Int))) (some (i6 (k:Int))) none=some (st (mkB ((s.data.toList.take k).drop i)),σ):=by
  rw [← ex_mk]
  unfold slc cutOwn byValue1 slicev
  rw [Tryz.underlying9]
  cases dr <;> simp [AV.owns,boundv,keep,h,hi]
end
section
variable [Fixed] {X:Ext}
end
end Go.Proofs.Lex
end
/- Lexicon: the reference texts, walked (printed) -/
section
open Go Go.Vm Go.Proofs
namespace Go.Proofs.Lex
end Go.Proofs.Lex
end
/- Lexicon: the reference's text of a record. -/
section
open Go Go.Vm Go.Proofs
namespace Go.Proofs.Lex
section
variable {X:Ext} {call:Caller} {lf:Nat}
end
section
variable [Fixed] {X:Ext}
end
end Go.Proofs.Lex
end
/- Lexicon: where the parts of a text lie; its parts cut at the equals sign. -/
section
open Go Go.Vm Go.Proofs
namespace Go.Proofs.Lex
end Go.Proofs.Lex
end
/- Lexicon: the reference's Parse of a record. -/
section
open Go Go.Vm Go.Proofs
namespace Go.Proofs.Lex
/-! ### the parts' text -/
/-! ### the record of a text -/
end Go.Proofs.Lex
end
/- Lexicon: the reference's Parse of a record, walked. -/
section
open Go Go.Vm Go.Proofs
namespace Go.Proofs.Lex
section
variable [Fixed] {X:Ext}
def okX (F:List Feat):Prop:=F.length ≤ big∧(textF F).length ≤ big
instance:DecidablePred okX:=fun F=>inferInstanceAs (Decidable (_∧_))
theorem emp_test {s:ByteArray} (h:s ≠ emp):(!s.toList == (ByteArray.mk #[]).toList)=true:=by
  rw [show (s.toList == (ByteArray.mk #[]).toList)=false from eqB_ne.2 h]
  rfl
theorem eq_test {s t:ByteArray} (h:s=t):(!s.toList == t.toList)=false:=by
  rw [show (s.toList == t.toList)=true from eqB_iff.2 h]
  rfl
end
end Go.Proofs.Lex
end
/- Lexicon: Valid, told. -/
section
open Go Go.Vm Go.Proofs
namespace Go.Proofs.Lex
/-- A lexeme over an alphabet, but for its ID's being new. -/
def lexO (a:List Lett) (x:Lexm):Bool:=nameL x.id && (nameL x.cat && ((decide (x.par=emp) || nameL x.par) && (isWordF a x.stem && validF x.feats)))
def idsV (L:List Lexm) (i:Nat):List ByteArray:=(L.take i).map (·.id)
def seenI (L:List Lexm) (i:Nat):Bool:=(idsV L i).any fun y=>decide (y=(nL L i).id)
def okI (a:List Lett) (L:List Lexm) (i:Nat):Bool := !seenI L i && lexO a (nL L i)
/-- What lexicon.Valid says. -/
def validLex (a:List Lett) (L:List Lexm):Bool:=alphaF a && (decide (L.length ≤ 256) && (List.range L.length).all (okI a L))
theorem ids_es (L:List Lexm) (i:Nat):idsR L i=esOf (idsV L i):=by
  unfold idsR esOf idsV
  rw [List.map_map]
  rfl
theorem ids_next {L:List Lexm} {i:Nat} (h:i < L.length) (hs:seenI L i=false):idsR L (i + 1)=esOf (putS (idsV L i) (nL L i).id):=by
  rw [ids_es]
  unfold putS
  rw [if_neg (by rw [show (idsV L i).any (fun x=>decide (x=(nL L i).id))=false from hs]; simp)]
  congr 1
  unfold idsV
  rw [List.take_succ_eq_append_getElem h,List.map_append,nL,getD_lt h]
  rfl
/-- Sizes that a machine bears. -/
structure okV (x:Lexm):Prop where
  id:okS x.id
  cat:okS x.cat
  stem:okS x.stem
  par:okS x.par
  feats:okF x.feats
section
variable [Fixed] {X:Ext}
/-- What lexicon.Valid asks. -/
def V38:Go.Vm.Spec:=(((Go.Vm.Spec.on (fun _ _=>none) 15 (s1 aS aB nameL okS)).on 17 (s1 aFs aB validF okF)).on 14 (s1 aTs aB alphaF fun a=>a.length ≤ big)).on 16 (sp2 aTs aS fun a s=>if a.length ≤ big∧s.size ≤ big then some (aB.enc (isWordF a s)) else none)
theorem V38_ok (hX:ExtOk Tryz.prog X) (hM:XV X):SpecOk Tryz.prog V38:=by
  have hL:=hM.toXM.toXL
  refine SpecOk.on2 (SpecOk.s1 (SpecOk.s1 (SpecOk.s1 SpecOk.none' fun s h=>call43 hX hL h) fun F h=>call45 hX hL h) fun a h=>call70 hX hL h) fun a s r h => ?_
  split at h
  · rename_i hh
    simp only [Option.some.injEq] at h
    subst h
    exact call71 hX hM hh.1 hh.2
  · cases h
theorem x43 (hL:XL X) {s:ByteArray} (h:okS s) (σ:List Ob):callv X (callerOf V38) false 15 [st s] σ 0=some (bo (nameL s),σ):=by
  obtain ⟨a1,a2,a3⟩:=hL.ok 15 rfl
  exact call_on (B:=aB) (T:=V38) (y:=nameL s) (vs:=[aS.enc s]) a1 a2 a3 rfl (s1_at (A:=aS) (B:=aB) (g:=nameL) (ok:=okS) h)
theorem x45 (hL:XL X) {F:List Feat} (h:okF F) (σ:List Ob):callv X (callerOf V38) false 17 [featsV F] σ 0=some (bo (validF F),σ):=by
  obtain ⟨a1,a2,a3⟩:=hL.ok 17 rfl
  exact call_on (B:=aB) (T:=V38) (y:=validF F) (vs:=[aFs.enc F]) a1 a2 a3 (by simp only [AV.ltAll,aFs.lt,Bool.and_self]) (s1_at (A:=aFs) (B:=aB) (g:=validF) (ok:=okF) h)
theorem x70 (hL:XL X) {a:List Lett} (h:a.length ≤ big) (σ:List Ob):callv X (callerOf V38) false 14 [lettsV a] σ 0=some (bo (alphaF a),σ):=by
  obtain ⟨a1,a2,a3⟩:=hL.ok 14 rfl
  exact call_on (B:=aB) (T:=V38) (y:=alphaF a) (vs:=[aTs.enc a]) a1 a2 a3 (by simp only [AV.ltAll,aTs.lt,Bool.and_self]) (s1_at (A:=aTs) (B:=aB) (g:=alphaF) (ok:=fun a=>a.length ≤ big) h)
theorem x71 (hL:XL X) {a:List Lett} {s:ByteArray} (h:a.length ≤ big) (hs:s.size ≤ big) (σ:List Ob):callv X (callerOf V38) false 16 [lettsV a,st s] σ 0=some (bo (isWordF a s),σ):=by
  obtain ⟨a1,a2,a3⟩:=hL.ok 16 rfl
  refine call_on (B:=aB) (T:=V38) (y:=isWordF a s) (vs:=[aTs.enc a,aS.enc s]) a1 a2 a3 (by simp only [AV.ltAll,aTs.lt,aS.lt,Bool.and_self]) ?_
  show sp2 aTs aS (fun a s=>if a.length ≤ big∧s.size ≤ big then some (aB.enc (isWordF a s)) else none) [aTs.enc a,aS.enc s]=_
  rw [sp2_at (aTs.de _) (aS.de _),if_pos ⟨h,hs⟩]
/-- lexicon.Valid. -/
theorem call38 (hX:ExtOk Tryz.prog X) (hM:XV X) {a:List Lett} {L:List Lexm} (ha:a.length ≤ big) (hl:L.length ≤ big) (hok:∀ x ∈ L,okV x):CallAt Tryz.prog 6 [aTs.enc a,aLs.enc L] [] 0 (aB.enc (validLex a L)) []:=by
  have hL:=hM.toXM.toXL
  have hC:=callerOf_ok (V38_ok hX hM)
  have hb:Tryz.f6.body=some (codeOf Tryz.f6):=by kernel_rfl
  have c70:=x70 (X:=X) hL ha []
  cases hal:alphaF a with
  | false =>
    rw [hal] at c70
    have:validLex a L=false:=by unfold validLex; rw [hal]; rfl
    rw [this]
    exact run_res (B:=aB) hX hC (hL.dom 6 rfl rfl) Tryz.func6 hb (f38_pf a L X _ 0 c70) rfl
  | true =>
    rw [hal] at c70
    by_cases h256:(L.length:Int) > 256
    · have : validLex a L = false := by unfold validLex; rw [hal, decide_eq_false (by omega)]; rfl
      rw [this]
      exact run_res (B:=aB) hX hC (hL.dom 6 rfl rfl) Tryz.func6 hb (f38_ptt a L X _ 0 c70 (decide_eq_true h256)) rfl
    have hbase:validLex a L=(List.range L.length).all (okI a L):=by unfold validLex; rw [hal,decide_eq_true (show L.length ≤ 256 by omega)]; rfl
    have lt:∀ {i:Nat},decide ((i:Int) < (L.length:Int))=true→i < L.length:=fun h=>by have:=of_decide_eq_true h; omega
    have ok:∀ {i:Nat},i < L.length→okV (nL L i):=fun {i} h=>hok _ (by rw [nL,getD_lt h]; exact List.getElem_mem h)
    have M := fun n hn hz => f38_M a L X (callerOf V38) (L.length + 1) n (fun i => (nL L i).id) (fun i => (nL L i).cat) (fun i => (nL L i).stem) (fun i => (nL L i).par) (fun i => (nL L i).feats.length) (fun i => (nL L i).feats.flatMap featC) (fun i => tL L i)
      (fun i=>[.mapo (esOf (putS (idsV L i) (nL L i).id))]) (fun i=>[.mapo (esOf (putS (idsV L i) (nL L i).id))]) (fun i=>seenI L i) (fun i=>nameL (nL L i).id) (fun i=>nameL (nL L i).cat) (fun i=>nameL (nL L i).par) (fun i=>isWordF a (nL L i).stem) (fun i=>validF (nL L i).feats) (fun i=>isWordF a (nL L i).stem) (fun i=>validF (nL L i).feats) hn
      (fun i _ h=>at_lex (lt h)) (fun i _ h=>by rw [ids_es]; exact look58 _ _) (fun i _ h _=>x43 hL (ok (lt h)).id _) (fun i _ h _ _=>x43 hL (ok (lt h)).cat _) (fun i _ h _ _ _ _=>x43 hL (ok (lt h)).par _)
      (fun i _ h _ _ _ _ _=>x71 hL ha (ok (lt h)).stem _) (fun i _ h _ _ _ _ _ _=>x45 hL (ok (lt h)).feats _) (fun i _ h _ _ _ _ _ _ _=>by rw [ids_es]; exact put58e _ _)
      (fun i _ h _ _ _ _=>x71 hL ha (ok (lt h)).stem _) (fun i _ h _ _ _ _ _=>x45 hL (ok (lt h)).feats _) (fun i _ h _ _ _ _ _ _=>by rw [ids_es]; exact put58e _ _)
      (fun i _ h=>up (lt h) hl) (fun i _ h hs _ _ _ _ _ _=>by rw [ids_next (lt h) hs]) (fun i _ h hs _ _ _ _ _=>by rw [ids_next (lt h) hs]) hz
    have ho : ∀ j, j < L.length → f38_o0 L j (nL L j).par (seenI L j) (nameL (nL L j).id) (nameL (nL L j).cat) (nameL (nL L j).par) (isWordF a (nL L j).stem) (validF (nL L j).feats) (isWordF a (nL L j).stem) (validF (nL L j).feats) = if okI a L j then 0 else 1 := fun j hj => by
      unfold f38_o0 okI lexO
      rw [decide_eq_true (by omega)]
      by_cases e:(nL L j).par=emp
      · rw [show (!(nL L j).par.toList == (ByteArray.mk #[]).toList) = false from eq_test e, decide_eq_true e]
        cases seenI L j <;> cases nameL (nL L j).id <;> cases nameL (nL L j).cat <;> cases isWordF a (nL L j).stem <;> cases validF (nL L j).feats <;> rfl
      · rw [show (!(nL L j).par.toList == (ByteArray.mk #[]).toList) = true from emp_test e, decide_eq_false e]
        cases seenI L j <;> cases nameL (nL L j).id <;> cases nameL (nL L j).cat <;> cases nameL (nL L j).par <;> cases isWordF a (nL L j).stem <;> cases validF (nL L j).feats <;> rfl
    rcases first_fail (p:=fun j=>okI a L j=true) L.length with hall | ⟨k,hk,hbad,hbef⟩
    · have hv : validLex a L = true := by rw [hbase, List.all_eq_true]; exact fun j hj => hall j (List.mem_range.1 hj)
      rw [hv]
      have m:=M L.length (Nat.lt_succ_self _) fun j hj=>by rw [ho j hj,if_pos (hall j hj)]
      have h2 : f38_o0 L L.length (nL L L.length).par (seenI L L.length) (nameL (nL L L.length).id) (nameL (nL L L.length).cat) (nameL (nL L L.length).par) (isWordF a (nL L L.length).stem) (validF (nL L L.length).feats) (isWordF a (nL L L.length).stem) (validF (nL L L.length).feats) = 2 := by
        unfold f38_o0
        rw [decide_eq_false (by omega)]
      exact run_res (B:=aB) hX hC (hL.dom 6 rfl rfl) Tryz.func6 hb (m.2.2.2.2.2.2.2.2 h2 c70 (decide_eq_false h256)) rfl
    · have hv : validLex a L = false := by
        rw [hbase,Bool.eq_false_iff]
        intro hc
        exact hbad (List.all_eq_true.1 hc k (List.mem_range.2 hk))
      rw [hv]
      have m:=M k (by omega) fun j hj=>by rw [ho j (by omega),if_pos (hbef j hj)]
      exact run_res (B:=aB) hX hC (hL.dom 6 rfl rfl) Tryz.func6 hb (m.1 (by rw [ho k hk,if_neg hbad]) c70 (decide_eq_false h256)) rfl
end
end Go.Proofs.Lex
end
/- Lexicon: the law of what a valid lexicon finds. -/
section
open Go Go.Vm Go.Proofs
namespace Go.Proofs.Lex
section
variable [Fixed] {X:Ext}
theorem on_cond {α β:Type} {p:Prop} [Decidable p] {x r:AV} {Q:AV→Prop} (h:(if p then some x else none)=some r) (hq:p→Q x):Q r:=by
  split at h
  · rename_i hp
    simp only [Option.some.injEq] at h
    exact h ▸ hq hp
  · cases h
/-- A told call on two arguments. -/
theorem on_two {α β γ:Type} {A:Arg α} {B:Arg β} {D:Arg γ} {T:Go.Vm.Spec} {f:FuncId} {g:α→β→Option AV} {x:α} {y:β} {z:γ} (hL:XL X) (hw:lexW f=true) (hT:T f [A.enc x,B.enc y]=sp2 A B g [A.enc x,B.enc y]) (hg:g x y=some (D.enc z)) (dr:Bool) (σ:List Ob):callv X (callerOf T) dr f [A.enc x,B.enc y] σ 0=some (D.enc z,σ):=by
  obtain ⟨a1,a2,a3⟩:=hL.ok f hw
  refine call_on (B:=D) (T:=T) (y:=z) a1 a2 a3 (by simp only [AV.ltAll,A.lt,B.lt,Bool.and_self]) ?_
  rw [hT,sp2_at (A.de _) (B.de _),hg]
variable (hX:ExtOk Tryz.prog X) (hM:XV X) (h14:CallAt Tryz.prog 4 [] [] 0 (bo true) [])
include hX hM h14
end
end Go.Proofs.Lex
end
/- Lexicon: from the readings of a row to letters and numbers. -/
section
open Go Go.Vm Go.Proofs Go.Proofs.YtogacbdboplbfaaGreatDoor
open Go.RowKit Go.ChangeShapes Go.WideShapes Go.Lib Go.Shelf
namespace Go.Proofs.Lex
abbrev tysT:List TypeId:=[3,4,5,9,21,22,23,28,29,31,39,62,64]
theorem tysT_ok:tysT.all (Go.Vm.okT Tryz.prog tysT)=true:=by kernel_rfl
theorem int_shape {B:Nat} {t:TypeId} {k:IntKind} (ht:Tryz.prog.underlying t=some (.int k)) {x:List AV} (hx:Shape Tryz.prog B t x):∃ n:Int,x=[.int k n]:=by
  cases hx with
  | int hu n hn =>
    rw [ht] at hu
    simp only [Option.some.injEq,TypeDesc.int.injEq] at hu
    subst hu
    exact ⟨n,rfl⟩
  | str hu=>rw [ht] at hu; cases hu
  | bool hu=>rw [ht] at hu; cases hu
  | slice hu=>rw [ht] at hu; cases hu
  | struct hu=>rw [ht] at hu; cases hu
theorem lett_shape {B:Nat} (x:List AV) (hx:Shape Tryz.prog B 64 x):∃ f:Lett,x=lettC f∧True:=by
  have h108:=Tryz.underlying64
  cases hx with
  | struct hu ps hl hp =>
    rw [h108] at hu
    simp only [Option.some.injEq,TypeDesc.struct.injEq] at hu
    subst hu
    match ps,hl with
    | [p0, p1], _ =>
      obtain ⟨a,rfl⟩:=int_shape Tryz.underlying21 (hp 0 _ _ rfl rfl)
      obtain ⟨b,rfl⟩:=int_shape Tryz.underlying62 (hp 1 _ _ rfl rfl)
      exact ⟨⟨a,b⟩,rfl,trivial⟩
  | int hu=>rw [h108] at hu; cases hu
  | bool hu=>rw [h108] at hu; cases hu
  | str hu=>rw [h108] at hu; cases hu
  | slice hu=>rw [h108] at hu; cases hu
theorem cells108:Tryz.prog.cellsOf 64=2:=by kernel_rfl
theorem bytes108:Tryz.prog.bytesOf 64=8:=by kernel_rfl
theorem arg_letts {B:Nat} {v:AV} (h:ArgIs Tryz.prog B 22 v):∃ a:List Lett,v=lettsV a∧a.length * 8 ≤ B:=by
  obtain ⟨l,hl,_,h2⟩:=row_shape (enc:=lettC) (Q:=fun _=>True) Tryz.underlying22 cells108 bytes108 lett_shape (h.one Tryz.underlying22 rfl)
  simp only [List.cons.injEq,and_true] at hl
  exact ⟨l,hl,h2⟩
theorem bigT_of {B n k:Nat} (hB:B ≤ big) (hk:1 ≤ k) (h:n * k ≤ B):n ≤ big:=Nat.le_trans (Nat.le_trans (Nat.le_mul_of_pos_right n hk) h) hB
theorem okV_of {B:Nat} (hB:B ≤ big) {x:Lexm} (h:LexIn B x):okV x:=by
  obtain ⟨h1,h2,h3,h4,h5,h6⟩:=h
  exact ⟨Nat.le_trans h1 hB,Nat.le_trans h2 hB,Nat.le_trans h3 hB,Nat.le_trans h4 hB,bigT_of hB (by decide) h6,fun f hf=>⟨Nat.le_trans (h5 f hf).1 hB,Nat.le_trans (h5 f hf).2 hB⟩⟩
theorem xv09 [Fixed]:XV X09:=⟨xm09,rfl⟩
end Go.Proofs.Lex
end
/- Lexicon: the reference of Valid, and the law, walked (printed) -/
section
open Go Go.Vm Go.Proofs
namespace Go.Proofs.Lex
theorem f90039_pttt (n0:Int) (X:Ext) (call:Caller) (lf:Nat)
  (h0:decide (n0 > 32)=true)
  (h1:decide (n0 ≤ 1114111)=true)
  (h2:decide (n0 < 55296)=true):vbody Tryz.prog X call lf noFg Tryz.f39 (codeOf Tryz.f39) [AV.int IntKind.i32 n0] [] 0=some (bo true,[]) :=
  along_sound (ans:=[(4,Ans.b true),(9,Ans.b true),(15,Ans.b true)]) (by kernel_rfl) (ai h0 (ai h1 (ai h2 trivial)))
theorem f90039_pttft (n0:Int) (X:Ext) (call:Caller) (lf:Nat)
  (h0:decide (n0 > 32)=true)
  (h1:decide (n0 ≤ 1114111)=true)
  (h2:decide (n0 < 55296)=false)
  (h3:decide (n0 > 57343)=true):vbody Tryz.prog X call lf noFg Tryz.f39 (codeOf Tryz.f39) [AV.int IntKind.i32 n0] [] 0=some (bo true,[]) :=
  along_sound (ans:=[(4,Ans.b true),(9,Ans.b true),(15,Ans.b false),(21,Ans.b true)]) (by kernel_rfl) (ai h0 (ai h1 (ai h2 (ai h3 trivial))))
theorem f90039_pttff (n0:Int) (X:Ext) (call:Caller) (lf:Nat)
  (h0:decide (n0 > 32)=true)
  (h1:decide (n0 ≤ 1114111)=true)
  (h2:decide (n0 < 55296)=false)
  (h3:decide (n0 > 57343)=false):vbody Tryz.prog X call lf noFg Tryz.f39 (codeOf Tryz.f39) [AV.int IntKind.i32 n0] [] 0=some (bo false,[]) :=
  along_sound (ans:=[(4,Ans.b true),(9,Ans.b true),(15,Ans.b false),(21,Ans.b false)]) (by kernel_rfl) (ai h0 (ai h1 (ai h2 (ai h3 trivial))))
theorem f90039_ptf (n0:Int) (X:Ext) (call:Caller) (lf:Nat)
  (h0:decide (n0 > 32)=true)
  (h1:decide (n0 ≤ 1114111)=false):vbody Tryz.prog X call lf noFg Tryz.f39 (codeOf Tryz.f39) [AV.int IntKind.i32 n0] [] 0=some (bo false,[]) :=
  along_sound (ans:=[(4,Ans.b true),(9,Ans.b false)]) (by kernel_rfl) (ai h0 (ai h1 trivial))
theorem f90039_pf (n0:Int) (X:Ext) (call:Caller) (lf:Nat)
  (h0:decide (n0 > 32)=false):vbody Tryz.prog X call lf noFg Tryz.f39 (codeOf Tryz.f39) [AV.int IntKind.i32 n0] [] 0=some (bo false,[]) :=
  along_sound (ans:=[(4,Ans.b false)]) (by kernel_rfl) (ai h0 trivial)
def f90039_q0 (n0:Int):Nat :=
  (match decide (n0 > 32) with
  | true => (match decide (n0 ≤ 1114111) with
    | true => (match decide (n0 < 55296) with
      | true=>0
      | false => (match decide (n0 > 57343) with
        | true=>0
        | false=>1))
    | false=>1)
  | false=>1)
theorem f90039_P0 (n0:Int) (X:Ext) (call:Caller) (lf:Nat) :
    (f90039_q0 n0=0→vbody Tryz.prog X call lf noFg Tryz.f39 (codeOf Tryz.f39) [AV.int IntKind.i32 n0] [] 0=some (bo true,[]))∧(f90039_q0 n0=1→vbody Tryz.prog X call lf noFg Tryz.f39 (codeOf Tryz.f39) [AV.int IntKind.i32 n0] [] 0=some (bo false,[])):=by
  unfold f90039_q0
  cases c0:decide (n0 > 32) with
  | true =>
    cases c1:decide (n0 ≤ 1114111) with
    | true =>
      cases c2:decide (n0 < 55296) with
      | true =>
        exact ⟨fun _=>f90039_pttt n0 X call lf c0 c1 c2,fun h=>nq h⟩
      | false =>
        cases c3:decide (n0 > 57343) with
        | true =>
          exact ⟨fun _=>f90039_pttft n0 X call lf c0 c1 c2 c3,fun h=>nq h⟩
        | false =>
          exact ⟨fun h=>nq h,fun _=>f90039_pttff n0 X call lf c0 c1 c2 c3⟩
    | false =>
      exact ⟨fun h=>nq h,fun _=>f90039_ptf n0 X call lf c0 c1⟩
  | false =>
    exact ⟨fun h=>nq h,fun _=>f90039_pf n0 X call lf c0⟩
def fg90040:Nat→List Nat
  | 2=>[6,7,8]
  | 4=>[12,13,14,15,16,17]
  | 3=>[10,11]
  | _=>[]
def f90040_F0 (a0:List Lett) (n0:Int) (i0:Nat):St :=
  stOf 20 [4,6,7,8,9,10,11,12,13,14,15,16,17,18,19] [(0,lro (List.length a0) 2 (List.flatMap lettC a0)),(1,AV.int IntKind.i32 n0),(5,i6 (↑i0:Int))] []
def f90040_S0 (a0:List Lett) (n0:Int):St :=
  stOf 20 [] [(0,lro (List.length a0) 2 (List.flatMap lettC a0)),(1,AV.int IntKind.i32 n0),(4,i6 0),(5,i6 0)] []
abbrev f90040_D0:List Nat:=[11,10,4,19,18,17,16,15,14,13,12,9,8,7,6]
theorem f90040_L0 (a0:List Lett) (n0:Int) (X:Ext) (call:Caller) (lf:Nat) (n:Nat) (x:Ex) (S' : St)
  (hn:n < lf)
  (hs:∀ j,j < n→∃ Sx,vexec Tryz.prog X call lf 0 fg90040 (loopN Tryz.f40 0) (f90040_F0 a0 n0 j)=some (Ex.normal,Sx)∧forget f90040_D0 Sx=(f90040_F0 a0 n0 (j + 1)))
  (he:vexec Tryz.prog X call lf 0 fg90040 (loopN Tryz.f40 0) (f90040_F0 a0 n0 n)=some (x,S'))
  (hx:x ≠ Ex.normal):vexec Tryz.prog X call lf 0 fg90040 (Go.Code.loop (loopN Tryz.f40 0)) (f90040_S0 a0 n0)=some (x,S') :=
  loop_runK (by kernel_rfl) (fun j=>(f90040_F0 a0 n0 j)) n hn (by show forget f90040_D0 (f90040_S0 a0 n0)=(f90040_F0 a0 n0 0); unfold f90040_F0; show _=_; kernel_rfl) hs he hx
def f90040_S1 (a0:List Lett) (n0:Int) (i0:Nat):St :=
  stOf 20 [6,7,8,10,11,12,13,14,15,16,17] [(0,lro (List.length a0) 2 (List.flatMap lettC a0)),(1,AV.int IntKind.i32 n0),(4,i6 (↑i0:Int)),(5,i6 (↑i0:Int)),(9,bo true),(18,bo true),(19,i6 (↑i0:Int))] []
theorem f90040_r0_tt (a0:List Lett) (n0:Int) (X:Ext) (call:Caller) (lf:Nat) (i0:Nat) (n14_0_0:Int) (n14_0_1:Int) (r14:List AV)
  (h0:decide ((↑i0:Int) < (↑(List.length a0):Int))=true)
  (h1:keep [] (indexAddrv Tryz.prog 22 [] (lro (List.length a0) 2 (List.flatMap lettC a0)) (i6 (↑i0:Int)))=some (AV.eaddr (AV.int IntKind.i32 n14_0_0::AV.int IntKind.u32 n14_0_1::r14),[]))
  (h2:(n14_0_0 == n0)=true):vexec Tryz.prog X call lf 0 fg90040 (loopN Tryz.f40 0) (f90040_F0 a0 n0 i0)=some (Ex.ret,(f90040_S1 a0 n0 i0)) :=
  around_sound (ans:=[(4,Ans.b true),(9,Ans.v (AV.eaddr (AV.int IntKind.i32 n14_0_0::AV.int IntKind.u32 n14_0_1::r14))),(13,Ans.b true)]) (by kernel_rfl) (ai h0 (ai h1 (ai h2 trivial)))
theorem f90040_pltt (a0:List Lett) (n0:Int) (X:Ext) (call:Caller) (lf:Nat) (i0:Nat)
  (h0:vexec Tryz.prog X call lf 0 fg90040 (Code.loop (loopN Tryz.f40 0)) (f90040_S0 a0 n0)=some (Ex.ret,(f90040_S1 a0 n0 i0))):vbody Tryz.prog X call lf fg90040 Tryz.f40 (codeOf Tryz.f40) [lettsV a0,AV.int IntKind.i32 n0] [] 0=some (i6 (↑i0:Int),[]) :=
  along_sound (ans:=[(4,Ans.l Ex.ret (f90040_S1 a0 n0 i0))]) (by kernel_rfl) (ai h0 trivial)
theorem f90040_s0_tf (a0:List Lett) (n0:Int) (X:Ext) (call:Caller) (lf:Nat) (i0:Nat) (n14_0_0:Int) (n14_0_1:Int) (r14:List AV)
  (h0:decide ((↑i0:Int) < (↑(List.length a0):Int))=true)
  (h1:keep [] (indexAddrv Tryz.prog 22 [] (lro (List.length a0) 2 (List.flatMap lettC a0)) (i6 (↑i0:Int)))=some (AV.eaddr (AV.int IntKind.i32 n14_0_0::AV.int IntKind.u32 n14_0_1::r14),[]))
  (h2:(n14_0_0 == n0)=false)
  (e0:(↑(i0 + 1):Int)=w6 ((↑i0:Int) + 1)):∃ Sx,vexec Tryz.prog X call lf 0 fg90040 (loopN Tryz.f40 0) (f90040_F0 a0 n0 i0)=some (Ex.normal,Sx)∧forget f90040_D0 Sx=(f90040_F0 a0 n0 (i0 + 1)) :=
  ⟨stOf 20 [4,6,7,8,10,11,12,13,14,15,16,17,19] [(0,lro (List.length a0) 2 (List.flatMap lettC a0)),(1,AV.int IntKind.i32 n0),(5,i6 (w6 ((↑i0:Int) + 1))),(9,bo true),(18,bo false)] [],around_sound (ans:=[(4,Ans.b true),(9,Ans.v (AV.eaddr (AV.int IntKind.i32 n14_0_0::AV.int IntKind.u32 n14_0_1::r14))),(13,Ans.b false)]) (by kernel_rfl) (ai h0 (ai h1 (ai h2 trivial))),by unfold f90040_F0; rw [e0]; show _=_; kernel_rfl⟩
def f90040_S2 (a0:List Lett) (n0:Int) (i0:Nat):St :=
  stOf 20 [4,6,7,8,10,11,12,13,14,15,16,17,18,19] [(0,lro (List.length a0) 2 (List.flatMap lettC a0)),(1,AV.int IntKind.i32 n0),(5,i6 (↑i0:Int)),(9,bo false)] []
theorem f90040_r0_f (a0:List Lett) (n0:Int) (X:Ext) (call:Caller) (lf:Nat) (i0:Nat)
  (h0:decide ((↑i0:Int) < (↑(List.length a0):Int))=false):vexec Tryz.prog X call lf 0 fg90040 (loopN Tryz.f40 0) (f90040_F0 a0 n0 i0)=some (Ex.exit 0,(f90040_S2 a0 n0 i0)) :=
  around_sound (ans:=[(4,Ans.b false)]) (by kernel_rfl) (ai h0 trivial)
theorem f90040_plf (a0:List Lett) (n0:Int) (X:Ext) (call:Caller) (lf:Nat) (i0:Nat)
  (h0:vexec Tryz.prog X call lf 0 fg90040 (Code.loop (loopN Tryz.f40 0)) (f90040_S0 a0 n0)=some (Ex.exit 0,(f90040_S2 a0 n0 i0))):vbody Tryz.prog X call lf fg90040 Tryz.f40 (codeOf Tryz.f40) [lettsV a0,AV.int IntKind.i32 n0] [] 0=some (i6 (-1),[]) :=
  along_sound (ans:=[(4,Ans.l (Ex.exit 0) (f90040_S2 a0 n0 i0))]) (by kernel_rfl) (ai h0 trivial)
def f90040_o0 (a0:List Lett) (n0:Int) (i0:Nat) (n14_0_0:Int):Nat :=
  (match decide ((↑i0:Int) < (↑(List.length a0):Int)) with
  | true => (match (n14_0_0 == n0) with
    | true=>1
    | false=>0)
  | false=>2)
theorem f90040_B0 (a0:List Lett) (n0:Int) (X:Ext) (call:Caller) (lf:Nat) (i0:Nat) (n14_0_0:Int) (n14_0_1:Int) (r14:List AV)
  (g0:decide ((↑i0:Int) < (↑(List.length a0):Int))=true→keep [] (indexAddrv Tryz.prog 22 [] (lro (List.length a0) 2 (List.flatMap lettC a0)) (i6 (↑i0:Int)))=some (AV.eaddr (AV.int IntKind.i32 n14_0_0::AV.int IntKind.u32 n14_0_1::r14),[]))
  (e0 : decide ((↑i0 : Int) < (↑(List.length a0) : Int)) = true → (↑(i0 + 1) : Int) = w6 ((↑i0 : Int) + 1)) :
    (f90040_o0 a0 n0 i0 n14_0_0=0→∃ Sx,vexec Tryz.prog X call lf 0 fg90040 (loopN Tryz.f40 0) (f90040_F0 a0 n0 i0)=some (Ex.normal,Sx)∧forget f90040_D0 Sx=(f90040_F0 a0 n0 (i0 + 1)))∧(f90040_o0 a0 n0 i0 n14_0_0=1→vexec Tryz.prog X call lf 0 fg90040 (loopN Tryz.f40 0) (f90040_F0 a0 n0 i0)=some (Ex.ret,(f90040_S1 a0 n0 i0)))∧(f90040_o0 a0 n0 i0 n14_0_0=2→vexec Tryz.prog X call lf 0 fg90040 (loopN Tryz.f40 0) (f90040_F0 a0 n0 i0)=some (Ex.exit 0,(f90040_S2 a0 n0 i0))):=by
  unfold f90040_o0
  cases c0:decide ((↑i0:Int) < (↑(List.length a0):Int)) with
  | true =>
    cases c1:(n14_0_0 == n0) with
    | true =>
      exact ⟨fun h=>nq h,fun _=>f90040_r0_tt a0 n0 X call lf i0 n14_0_0 n14_0_1 r14 c0 (g0 c0) c1,fun h=>nq h⟩
    | false =>
      exact ⟨fun _=>f90040_s0_tf a0 n0 X call lf i0 n14_0_0 n14_0_1 r14 c0 (g0 c0) c1 (e0 c0),fun h=>nq h,fun h=>nq h⟩
  | false =>
    exact ⟨fun h=>nq h,fun h=>nq h,fun _=>f90040_r0_f a0 n0 X call lf i0 c0⟩
theorem f90040_X0 (a0:List Lett) (n0:Int) (X:Ext) (call:Caller) (lf:Nat) (i0:Nat) (n14_0_0:Int) (n14_0_1:Int) (r14:List AV)
  (g0 : decide ((↑i0 : Int) < (↑(List.length a0) : Int)) = true → keep [] (indexAddrv Tryz.prog 22 [] (lro (List.length a0) 2 (List.flatMap lettC a0)) (i6 (↑i0 : Int))) = some (AV.eaddr (AV.int IntKind.i32 n14_0_0 :: AV.int IntKind.u32 n14_0_1 :: r14), [])) :
    (f90040_o0 a0 n0 i0 n14_0_0=1→vexec Tryz.prog X call lf 0 fg90040 (loopN Tryz.f40 0) (f90040_F0 a0 n0 i0)=some (Ex.ret,(f90040_S1 a0 n0 i0)))∧(f90040_o0 a0 n0 i0 n14_0_0=2→vexec Tryz.prog X call lf 0 fg90040 (loopN Tryz.f40 0) (f90040_F0 a0 n0 i0)=some (Ex.exit 0,(f90040_S2 a0 n0 i0))):=by
  unfold f90040_o0
  cases c0:decide ((↑i0:Int) < (↑(List.length a0):Int)) with
  | true =>
    cases c1:(n14_0_0 == n0) with
    | true =>
      exact ⟨fun _=>f90040_r0_tt a0 n0 X call lf i0 n14_0_0 n14_0_1 r14 c0 (g0 c0) c1,fun h=>nq h⟩
    | false =>
      exact ⟨fun h=>nq h,fun h=>nq h⟩
  | false =>
    exact ⟨fun h=>nq h,fun _=>f90040_r0_f a0 n0 X call lf i0 c0⟩
theorem f90040_M (a0:List Lett) (n0:Int) (X:Ext) (call:Caller) (lf:Nat) (n:Nat) (n14_0_0:Nat→Int) (n14_0_1:Nat→Int) (r14:Nat→List AV)
  (hn:n < lf)
  (g0:∀ i0,i0 ≤ n→decide ((↑i0:Int) < (↑(List.length a0):Int))=true→keep [] (indexAddrv Tryz.prog 22 [] (lro (List.length a0) 2 (List.flatMap lettC a0)) (i6 (↑i0:Int)))=some (AV.eaddr (AV.int IntKind.i32 (n14_0_0 i0)::AV.int IntKind.u32 (n14_0_1 i0)::(r14 i0)),[]))
  (e0:∀ i0,i0 < n→decide ((↑i0:Int) < (↑(List.length a0):Int))=true→(↑(i0 + 1):Int)=w6 ((↑i0:Int) + 1))
  (hz : ∀ j, j < n → f90040_o0 a0 n0 j (n14_0_0 j) = 0) :
    (f90040_o0 a0 n0 n (n14_0_0 n)=1→vbody Tryz.prog X call lf fg90040 Tryz.f40 (codeOf Tryz.f40) [lettsV a0,AV.int IntKind.i32 n0] [] 0=some (i6 (↑n:Int),[]))∧(f90040_o0 a0 n0 n (n14_0_0 n)=2→vbody Tryz.prog X call lf fg90040 Tryz.f40 (codeOf Tryz.f40) [lettsV a0,AV.int IntKind.i32 n0] [] 0=some (i6 (-1),[])):=by
  have key:∀ j,j < n→_:=fun j hj=>(f90040_B0 a0 n0 X call lf j (n14_0_0 j) (n14_0_1 j) (r14 j) (g0 j (Nat.le_of_lt hj)) (e0 j hj)).1 (hz j hj)
  have kn:=f90040_X0 a0 n0 X call lf n (n14_0_0 n) (n14_0_1 n) (r14 n) (g0 n (Nat.le_refl n))
  exact ⟨fun hk => f90040_pltt a0 n0 X call lf n (f90040_L0 a0 n0 X call lf n _ _ hn key (kn.1 hk) (by simp)),
    fun hk=>f90040_plf a0 n0 X call lf n (f90040_L0 a0 n0 X call lf n _ _ hn key (kn.2 hk) (by simp))⟩
def fg90018:Nat→List Nat
  | 1=>[4,5,6,7,8,9,10]
  | 4=>[12,13,14]
  | 6=>[18,19,20,21,22,23,24,25,26,27,28,29,30,31,32,33,34]
  | 5=>[16,17]
  | _=>[]
theorem f90018_pt (a0:List Lett) (X:Ext) (call:Caller) (lf:Nat)
  (h0:decide ((↑(List.length a0):Int) < 1)=true):vbody Tryz.prog X call lf fg90018 Tryz.f18 (codeOf Tryz.f18) [lettsV a0] [] 0=some (bo false,[]) :=
  along_sound (ans:=[(5,Ans.b true)]) (by kernel_rfl) (ai h0 trivial)
theorem f90018_pft (a0:List Lett) (X:Ext) (call:Caller) (lf:Nat)
  (h0:decide ((↑(List.length a0):Int) < 1)=false)
  (h1:decide ((↑(List.length a0):Int) > 64)=true):vbody Tryz.prog X call lf fg90018 Tryz.f18 (codeOf Tryz.f18) [lettsV a0] [] 0=some (bo false,[]) :=
  along_sound (ans:=[(5,Ans.b false),(12,Ans.b true)]) (by kernel_rfl) (ai h0 (ai h1 trivial))
def f90018_F0 (a0:List Lett) (i0:Nat):St :=
  stOf 36 [2,4,5,6,7,8,9,10,12,13,14,15,16,17,18,19,20,21,22,23,24,25,26,27,28,29,30,31,32,33,34,35] [(0,lro (List.length a0) 2 (List.flatMap lettC a0)),(3,i6 (↑i0:Int)),(11,bo false)] []
def f90018_S0 (a0:List Lett):St :=
  stOf 36 [4,5,6,7,8,9,10] [(0,lro (List.length a0) 2 (List.flatMap lettC a0)),(2,bo false),(3,i6 0),(11,bo false)] []
abbrev f90018_D0:List Nat:=[17,16,2,35,34,33,32,31,30,29,28,27,26,25,24,23,22,21,20,19,18,15,14,13,12]
theorem f90018_L0 (a0:List Lett) (X:Ext) (call:Caller) (lf:Nat) (n:Nat) (x:Ex) (S' : St)
  (hn:n < lf)
  (hs:∀ j,j < n→∃ Sx,vexec Tryz.prog X call lf 0 fg90018 (loopN Tryz.f18 0) (f90018_F0 a0 j)=some (Ex.normal,Sx)∧forget f90018_D0 Sx=(f90018_F0 a0 (j + 1)))
  (he:vexec Tryz.prog X call lf 0 fg90018 (loopN Tryz.f18 0) (f90018_F0 a0 n)=some (x,S'))
  (hx:x ≠ Ex.normal):vexec Tryz.prog X call lf 0 fg90018 (Go.Code.loop (loopN Tryz.f18 0)) (f90018_S0 a0)=some (x,S') :=
  loop_runK (by kernel_rfl) (fun j=>(f90018_F0 a0 j)) n hn (by show forget f90018_D0 (f90018_S0 a0)=(f90018_F0 a0 0); unfold f90018_F0; show _=_; kernel_rfl) hs he hx
def f90018_S1 (a0:List Lett) (i0:Nat):St :=
  stOf 36 [4,5,6,7,8,9,10,12,13,14,16,17,18,19,20,21,22,23,24,25,26,27,28,29,30,31,32,33,34] [(0,lro (List.length a0) 2 (List.flatMap lettC a0)),(2,bo false),(3,i6 (↑i0:Int)),(11,bo false),(15,bo true),(35,bo true)] []
theorem f90018_r0_ttt (a0:List Lett) (X:Ext) (call:Caller) (lf:Nat) (i0:Nat) (n20_0_0:Int) (n20_0_1:Int) (r20:List AV) (n29_0_0:Int) (n29_0_1:Int) (r29:List AV) (n32:Int)
  (h0:decide ((↑i0:Int) < (↑(List.length a0):Int))=true)
  (h1:keep [] (indexAddrv Tryz.prog 22 [] (lro (List.length a0) 2 (List.flatMap lettC a0)) (i6 (↑i0:Int)))=some (AV.eaddr (AV.int IntKind.i32 n20_0_0::AV.int IntKind.u32 n20_0_1::r20),[]))
  (h2:callv X call false 39 [AV.int IntKind.i32 n20_0_0] [] 0=some (bo true,[]))
  (h3:keep [] (indexAddrv Tryz.prog 22 [] (lro (List.length a0) 2 (List.flatMap lettC a0)) (i6 (↑i0:Int)))=some (AV.eaddr (AV.int IntKind.i32 n29_0_0::AV.int IntKind.u32 n29_0_1::r29),[]))
  (h4:callv X call false 40 [lro (List.length a0) 2 (List.flatMap lettC a0),AV.int IntKind.i32 n29_0_0] [] 0=some (i6 n32,[]))
  (h5:(n32 != (↑i0:Int))=true):vexec Tryz.prog X call lf 0 fg90018 (loopN Tryz.f18 0) (f90018_F0 a0 i0)=some (Ex.ret,(f90018_S1 a0 i0)) :=
  around_sound (ans:=[(4,Ans.b true),(9,Ans.v (AV.eaddr (AV.int IntKind.i32 n20_0_0::AV.int IntKind.u32 n20_0_1::r20))),(12,Ans.v (bo true)),(22,Ans.v (AV.eaddr (AV.int IntKind.i32 n29_0_0::AV.int IntKind.u32 n29_0_1::r29))),(28,Ans.v (i6 n32)),(32,Ans.b true)]) (by kernel_rfl) (ai h0 (ai h1 (ai h2 (ai h3 (ai h4 (ai h5 trivial))))))
theorem f90018_pfflttt (a0:List Lett) (X:Ext) (call:Caller) (lf:Nat) (i0:Nat)
  (h0:decide ((↑(List.length a0):Int) < 1)=false)
  (h1:decide ((↑(List.length a0):Int) > 64)=false)
  (h2:vexec Tryz.prog X call lf 0 fg90018 (Code.loop (loopN Tryz.f18 0)) (f90018_S0 a0)=some (Ex.ret,(f90018_S1 a0 i0))):vbody Tryz.prog X call lf fg90018 Tryz.f18 (codeOf Tryz.f18) [lettsV a0] [] 0=some (bo false,[]) :=
  along_sound (ans:=[(5,Ans.b false),(12,Ans.b false),(17,Ans.l Ex.ret (f90018_S1 a0 i0))]) (by kernel_rfl) (ai h0 (ai h1 (ai h2 trivial)))
theorem f90018_s0_ttf (a0:List Lett) (X:Ext) (call:Caller) (lf:Nat) (i0:Nat) (n20_0_0:Int) (n20_0_1:Int) (r20:List AV) (n29_0_0:Int) (n29_0_1:Int) (r29:List AV) (n32:Int)
  (h0:decide ((↑i0:Int) < (↑(List.length a0):Int))=true)
  (h1:keep [] (indexAddrv Tryz.prog 22 [] (lro (List.length a0) 2 (List.flatMap lettC a0)) (i6 (↑i0:Int)))=some (AV.eaddr (AV.int IntKind.i32 n20_0_0::AV.int IntKind.u32 n20_0_1::r20),[]))
  (h2:callv X call false 39 [AV.int IntKind.i32 n20_0_0] [] 0=some (bo true,[]))
  (h3:keep [] (indexAddrv Tryz.prog 22 [] (lro (List.length a0) 2 (List.flatMap lettC a0)) (i6 (↑i0:Int)))=some (AV.eaddr (AV.int IntKind.i32 n29_0_0::AV.int IntKind.u32 n29_0_1::r29),[]))
  (h4:callv X call false 40 [lro (List.length a0) 2 (List.flatMap lettC a0),AV.int IntKind.i32 n29_0_0] [] 0=some (i6 n32,[]))
  (h5:(n32 != (↑i0:Int))=false)
  (e0:(↑(i0 + 1):Int)=w6 ((↑i0:Int) + 1)):∃ Sx,vexec Tryz.prog X call lf 0 fg90018 (loopN Tryz.f18 0) (f90018_F0 a0 i0)=some (Ex.normal,Sx)∧forget f90018_D0 Sx=(f90018_F0 a0 (i0 + 1)) :=
  ⟨stOf 36 [2,4,5,6,7,8,9,10,12,13,14,16,17,18,19,20,21,22,23,24,25,26,27,28,29,30,31,32,33,34] [(0,lro (List.length a0) 2 (List.flatMap lettC a0)),(3,i6 (w6 ((↑i0:Int) + 1))),(11,bo false),(15,bo true),(35,bo false)] [],around_sound (ans:=[(4,Ans.b true),(9,Ans.v (AV.eaddr (AV.int IntKind.i32 n20_0_0::AV.int IntKind.u32 n20_0_1::r20))),(12,Ans.v (bo true)),(22,Ans.v (AV.eaddr (AV.int IntKind.i32 n29_0_0::AV.int IntKind.u32 n29_0_1::r29))),(28,Ans.v (i6 n32)),(32,Ans.b false)]) (by kernel_rfl) (ai h0 (ai h1 (ai h2 (ai h3 (ai h4 (ai h5 trivial)))))),by unfold f90018_F0; rw [e0]; show _=_; kernel_rfl⟩
theorem f90018_r0_tf (a0:List Lett) (X:Ext) (call:Caller) (lf:Nat) (i0:Nat) (n20_0_0:Int) (n20_0_1:Int) (r20:List AV)
  (h0:decide ((↑i0:Int) < (↑(List.length a0):Int))=true)
  (h1:keep [] (indexAddrv Tryz.prog 22 [] (lro (List.length a0) 2 (List.flatMap lettC a0)) (i6 (↑i0:Int)))=some (AV.eaddr (AV.int IntKind.i32 n20_0_0::AV.int IntKind.u32 n20_0_1::r20),[]))
  (h2:callv X call false 39 [AV.int IntKind.i32 n20_0_0] [] 0=some (bo false,[])):vexec Tryz.prog X call lf 0 fg90018 (loopN Tryz.f18 0) (f90018_F0 a0 i0)=some (Ex.ret,(f90018_S1 a0 i0)) :=
  around_sound (ans:=[(4,Ans.b true),(9,Ans.v (AV.eaddr (AV.int IntKind.i32 n20_0_0::AV.int IntKind.u32 n20_0_1::r20))),(12,Ans.v (bo false))]) (by kernel_rfl) (ai h0 (ai h1 (ai h2 trivial)))
theorem f90018_pffltf (a0:List Lett) (X:Ext) (call:Caller) (lf:Nat) (i0:Nat)
  (h0:decide ((↑(List.length a0):Int) < 1)=false)
  (h1:decide ((↑(List.length a0):Int) > 64)=false)
  (h2:vexec Tryz.prog X call lf 0 fg90018 (Code.loop (loopN Tryz.f18 0)) (f90018_S0 a0)=some (Ex.ret,(f90018_S1 a0 i0))):vbody Tryz.prog X call lf fg90018 Tryz.f18 (codeOf Tryz.f18) [lettsV a0] [] 0=some (bo false,[]) :=
  along_sound (ans:=[(5,Ans.b false),(12,Ans.b false),(17,Ans.l Ex.ret (f90018_S1 a0 i0))]) (by kernel_rfl) (ai h0 (ai h1 (ai h2 trivial)))
def f90018_S2 (a0:List Lett) (i0:Nat):St :=
  stOf 36 [2,4,5,6,7,8,9,10,12,13,14,16,17,18,19,20,21,22,23,24,25,26,27,28,29,30,31,32,33,34,35] [(0,lro (List.length a0) 2 (List.flatMap lettC a0)),(3,i6 (↑i0:Int)),(11,bo false),(15,bo false)] []
theorem f90018_r0_f (a0:List Lett) (X:Ext) (call:Caller) (lf:Nat) (i0:Nat)
  (h0:decide ((↑i0:Int) < (↑(List.length a0):Int))=false):vexec Tryz.prog X call lf 0 fg90018 (loopN Tryz.f18 0) (f90018_F0 a0 i0)=some (Ex.exit 0,(f90018_S2 a0 i0)) :=
  around_sound (ans:=[(4,Ans.b false)]) (by kernel_rfl) (ai h0 trivial)
theorem f90018_pfflf (a0:List Lett) (X:Ext) (call:Caller) (lf:Nat) (i0:Nat)
  (h0:decide ((↑(List.length a0):Int) < 1)=false)
  (h1:decide ((↑(List.length a0):Int) > 64)=false)
  (h2:vexec Tryz.prog X call lf 0 fg90018 (Code.loop (loopN Tryz.f18 0)) (f90018_S0 a0)=some (Ex.exit 0,(f90018_S2 a0 i0))):vbody Tryz.prog X call lf fg90018 Tryz.f18 (codeOf Tryz.f18) [lettsV a0] [] 0=some (bo true,[]) :=
  along_sound (ans:=[(5,Ans.b false),(12,Ans.b false),(17,Ans.l (Ex.exit 0) (f90018_S2 a0 i0))]) (by kernel_rfl) (ai h0 (ai h1 (ai h2 trivial)))
def f90018_o0 (a0:List Lett) (i0:Nat) (n32:Int) (b0:Bool):Nat :=
  (match decide ((↑i0:Int) < (↑(List.length a0):Int)) with
  | true => (match b0 with
    | true => (match (n32 != (↑i0 : Int)) with
      | true=>1
      | false=>0)
    | false=>1)
  | false=>2)
theorem f90018_B0 (a0:List Lett) (X:Ext) (call:Caller) (lf:Nat) (i0:Nat) (n20_0_0:Int) (n20_0_1:Int) (r20:List AV) (n29_0_0:Int) (n29_0_1:Int) (r29:List AV) (n32:Int) (b0:Bool)
  (g0:decide ((↑i0:Int) < (↑(List.length a0):Int))=true→keep [] (indexAddrv Tryz.prog 22 [] (lro (List.length a0) 2 (List.flatMap lettC a0)) (i6 (↑i0:Int)))=some (AV.eaddr (AV.int IntKind.i32 n20_0_0::AV.int IntKind.u32 n20_0_1::r20),[]))
  (g1:decide ((↑i0:Int) < (↑(List.length a0):Int))=true→callv X call false 39 [AV.int IntKind.i32 n20_0_0] [] 0=some (bo b0,[]))
  (g2:decide ((↑i0:Int) < (↑(List.length a0):Int))=true→b0=true→keep [] (indexAddrv Tryz.prog 22 [] (lro (List.length a0) 2 (List.flatMap lettC a0)) (i6 (↑i0:Int)))=some (AV.eaddr (AV.int IntKind.i32 n29_0_0::AV.int IntKind.u32 n29_0_1::r29),[]))
  (g3:decide ((↑i0:Int) < (↑(List.length a0):Int))=true→b0=true→callv X call false 40 [lro (List.length a0) 2 (List.flatMap lettC a0),AV.int IntKind.i32 n29_0_0] [] 0=some (i6 n32,[]))
  (e0 : decide ((↑i0 : Int) < (↑(List.length a0) : Int)) = true → (↑(i0 + 1) : Int) = w6 ((↑i0 : Int) + 1)) :
    (f90018_o0 a0 i0 n32 b0=0→∃ Sx,vexec Tryz.prog X call lf 0 fg90018 (loopN Tryz.f18 0) (f90018_F0 a0 i0)=some (Ex.normal,Sx)∧forget f90018_D0 Sx=(f90018_F0 a0 (i0 + 1)))∧(f90018_o0 a0 i0 n32 b0=1→vexec Tryz.prog X call lf 0 fg90018 (loopN Tryz.f18 0) (f90018_F0 a0 i0)=some (Ex.ret,(f90018_S1 a0 i0)))∧(f90018_o0 a0 i0 n32 b0=2→vexec Tryz.prog X call lf 0 fg90018 (loopN Tryz.f18 0) (f90018_F0 a0 i0)=some (Ex.exit 0,(f90018_S2 a0 i0))):=by
  unfold f90018_o0
  cases c0:decide ((↑i0:Int) < (↑(List.length a0):Int)) with
  | true =>
    cases c1:b0 with
    | true =>
      cases c2:(n32 != (↑i0:Int)) with
      | true =>
        exact ⟨fun h=>nq h,fun _=>f90018_r0_ttt a0 X call lf i0 n20_0_0 n20_0_1 r20 n29_0_0 n29_0_1 r29 n32 c0 (g0 c0) (by have:=(g1 c0); rw [c1] at this; exact this) (g2 c0 c1) (g3 c0 c1) c2,fun h=>nq h⟩
      | false =>
        exact ⟨fun _=>f90018_s0_ttf a0 X call lf i0 n20_0_0 n20_0_1 r20 n29_0_0 n29_0_1 r29 n32 c0 (g0 c0) (by have:=(g1 c0); rw [c1] at this; exact this) (g2 c0 c1) (g3 c0 c1) c2 (e0 c0),fun h=>nq h,fun h=>nq h⟩
    | false =>
      exact ⟨fun h=>nq h,fun _=>f90018_r0_tf a0 X call lf i0 n20_0_0 n20_0_1 r20 c0 (g0 c0) (by have:=(g1 c0); rw [c1] at this; exact this),fun h=>nq h⟩
  | false =>
    exact ⟨fun h=>nq h,fun h=>nq h,fun _=>f90018_r0_f a0 X call lf i0 c0⟩
theorem f90018_X0 (a0:List Lett) (X:Ext) (call:Caller) (lf:Nat) (i0:Nat) (n20_0_0:Int) (n20_0_1:Int) (r20:List AV) (n29_0_0:Int) (n29_0_1:Int) (r29:List AV) (n32:Int) (b0:Bool)
  (g0:decide ((↑i0:Int) < (↑(List.length a0):Int))=true→keep [] (indexAddrv Tryz.prog 22 [] (lro (List.length a0) 2 (List.flatMap lettC a0)) (i6 (↑i0:Int)))=some (AV.eaddr (AV.int IntKind.i32 n20_0_0::AV.int IntKind.u32 n20_0_1::r20),[]))
  (g1:decide ((↑i0:Int) < (↑(List.length a0):Int))=true→callv X call false 39 [AV.int IntKind.i32 n20_0_0] [] 0=some (bo b0,[]))
  (g2:decide ((↑i0:Int) < (↑(List.length a0):Int))=true→b0=true→keep [] (indexAddrv Tryz.prog 22 [] (lro (List.length a0) 2 (List.flatMap lettC a0)) (i6 (↑i0:Int)))=some (AV.eaddr (AV.int IntKind.i32 n29_0_0::AV.int IntKind.u32 n29_0_1::r29),[]))
  (g3 : decide ((↑i0 : Int) < (↑(List.length a0) : Int)) = true → b0 = true → callv X call false 40 [lro (List.length a0) 2 (List.flatMap lettC a0), AV.int IntKind.i32 n29_0_0] [] 0 = some (i6 n32, [])) :
    (f90018_o0 a0 i0 n32 b0=1→vexec Tryz.prog X call lf 0 fg90018 (loopN Tryz.f18 0) (f90018_F0 a0 i0)=some (Ex.ret,(f90018_S1 a0 i0)))∧(f90018_o0 a0 i0 n32 b0=2→vexec Tryz.prog X call lf 0 fg90018 (loopN Tryz.f18 0) (f90018_F0 a0 i0)=some (Ex.exit 0,(f90018_S2 a0 i0))):=by
  unfold f90018_o0
  cases c0:decide ((↑i0:Int) < (↑(List.length a0):Int)) with
  | true =>
    cases c1:b0 with
    | true =>
      cases c2:(n32 != (↑i0:Int)) with
      | true =>
        exact ⟨fun _=>f90018_r0_ttt a0 X call lf i0 n20_0_0 n20_0_1 r20 n29_0_0 n29_0_1 r29 n32 c0 (g0 c0) (by have:=(g1 c0); rw [c1] at this; exact this) (g2 c0 c1) (g3 c0 c1) c2,fun h=>nq h⟩
      | false =>
        exact ⟨fun h=>nq h,fun h=>nq h⟩
    | false =>
      exact ⟨fun _=>f90018_r0_tf a0 X call lf i0 n20_0_0 n20_0_1 r20 c0 (g0 c0) (by have:=(g1 c0); rw [c1] at this; exact this),fun h=>nq h⟩
  | false =>
    exact ⟨fun h=>nq h,fun _=>f90018_r0_f a0 X call lf i0 c0⟩
theorem f90018_M (a0:List Lett) (X:Ext) (call:Caller) (lf:Nat) (n:Nat) (n20_0_0:Nat→Int) (n20_0_1:Nat→Int) (r20:Nat→List AV) (n29_0_0:Nat→Int) (n29_0_1:Nat→Int) (r29:Nat→List AV) (n32:Nat→Int) (b0:Nat→Bool)
  (hn:n < lf)
  (g0:∀ i0,i0 ≤ n→decide ((↑i0:Int) < (↑(List.length a0):Int))=true→keep [] (indexAddrv Tryz.prog 22 [] (lro (List.length a0) 2 (List.flatMap lettC a0)) (i6 (↑i0:Int)))=some (AV.eaddr (AV.int IntKind.i32 (n20_0_0 i0)::AV.int IntKind.u32 (n20_0_1 i0)::(r20 i0)),[]))
  (g1:∀ i0,i0 ≤ n→decide ((↑i0:Int) < (↑(List.length a0):Int))=true→callv X call false 39 [AV.int IntKind.i32 (n20_0_0 i0)] [] 0=some (bo (b0 i0),[]))
  (g2:∀ i0,i0 ≤ n→decide ((↑i0:Int) < (↑(List.length a0):Int))=true→(b0 i0)=true→keep [] (indexAddrv Tryz.prog 22 [] (lro (List.length a0) 2 (List.flatMap lettC a0)) (i6 (↑i0:Int)))=some (AV.eaddr (AV.int IntKind.i32 (n29_0_0 i0)::AV.int IntKind.u32 (n29_0_1 i0)::(r29 i0)),[]))
  (g3:∀ i0,i0 ≤ n→decide ((↑i0:Int) < (↑(List.length a0):Int))=true→(b0 i0)=true→callv X call false 40 [lro (List.length a0) 2 (List.flatMap lettC a0),AV.int IntKind.i32 (n29_0_0 i0)] [] 0=some (i6 (n32 i0),[]))
  (e0:∀ i0,i0 < n→decide ((↑i0:Int) < (↑(List.length a0):Int))=true→(↑(i0 + 1):Int)=w6 ((↑i0:Int) + 1))
  (hz : ∀ j, j < n → f90018_o0 a0 j (n32 j) (b0 j) = 0) :
    (f90018_o0 a0 n (n32 n) (b0 n)=1→decide ((↑(List.length a0):Int) < 1)=false→decide ((↑(List.length a0):Int) > 64)=false→vbody Tryz.prog X call lf fg90018 Tryz.f18 (codeOf Tryz.f18) [lettsV a0] [] 0=some (bo false,[]))∧(f90018_o0 a0 n (n32 n) (b0 n)=1→decide ((↑(List.length a0):Int) < 1)=false→decide ((↑(List.length a0):Int) > 64)=false→vbody Tryz.prog X call lf fg90018 Tryz.f18 (codeOf Tryz.f18) [lettsV a0] [] 0=some (bo false,[]))∧(f90018_o0 a0 n (n32 n) (b0 n)=2→decide ((↑(List.length a0):Int) < 1)=false→decide ((↑(List.length a0):Int) > 64)=false→vbody Tryz.prog X call lf fg90018 Tryz.f18 (codeOf Tryz.f18) [lettsV a0] [] 0=some (bo true,[])):=by
  have key:∀ j,j < n→_:=fun j hj=>(f90018_B0 a0 X call lf j (n20_0_0 j) (n20_0_1 j) (r20 j) (n29_0_0 j) (n29_0_1 j) (r29 j) (n32 j) (b0 j) (g0 j (Nat.le_of_lt hj)) (g1 j (Nat.le_of_lt hj)) (g2 j (Nat.le_of_lt hj)) (g3 j (Nat.le_of_lt hj)) (e0 j hj)).1 (hz j hj)
  have kn:=f90018_X0 a0 X call lf n (n20_0_0 n) (n20_0_1 n) (r20 n) (n29_0_0 n) (n29_0_1 n) (r29 n) (n32 n) (b0 n) (g0 n (Nat.le_refl n)) (g1 n (Nat.le_refl n)) (g2 n (Nat.le_refl n)) (g3 n (Nat.le_refl n))
  exact ⟨fun hk q0 q1 => f90018_pfflttt a0 X call lf n q0 q1 (f90018_L0 a0 X call lf n _ _ hn key (kn.1 hk) (by simp)),
    fun hk q0 q1=>f90018_pffltf a0 X call lf n q0 q1 (f90018_L0 a0 X call lf n _ _ hn key (kn.1 hk) (by simp)),
    fun hk q0 q1=>f90018_pfflf a0 X call lf n q0 q1 (f90018_L0 a0 X call lf n _ _ hn key (kn.2 hk) (by simp))⟩
theorem f90019_pttttt (a0:List Lett) (x0:Lexm) (X:Ext) (call:Caller) (lf:Nat)
  (h0:callv X call false 41 [st (Lexm.id x0)] [Ob.cells [st (Lexm.id x0),st (Lexm.cat x0),st (Lexm.stem x0),st (Lexm.par x0),lro (List.length (Lexm.feats x0)) 2 (List.flatMap featC (Lexm.feats x0))]] 0=some (bo true,[Ob.cells [st (Lexm.id x0),st (Lexm.cat x0),st (Lexm.stem x0),st (Lexm.par x0),lro (List.length (Lexm.feats x0)) 2 (List.flatMap featC (Lexm.feats x0))]]))
  (h1:callv X call false 41 [st (Lexm.cat x0)] [Ob.cells [st (Lexm.id x0),st (Lexm.cat x0),st (Lexm.stem x0),st (Lexm.par x0),lro (List.length (Lexm.feats x0)) 2 (List.flatMap featC (Lexm.feats x0))]] 0=some (bo true,[Ob.cells [st (Lexm.id x0),st (Lexm.cat x0),st (Lexm.stem x0),st (Lexm.par x0),lro (List.length (Lexm.feats x0)) 2 (List.flatMap featC (Lexm.feats x0))]]))
  (h2:(ByteArray.toList (Lexm.par x0) == ByteArray.toList (ByteArray.mk #[]))=true)
  (h3:callv X call false 42 [lro (List.length a0) 2 (List.flatMap lettC a0),st (Lexm.stem x0)] [Ob.cells [st (Lexm.id x0),st (Lexm.cat x0),st (Lexm.stem x0),st (Lexm.par x0),lro (List.length (Lexm.feats x0)) 2 (List.flatMap featC (Lexm.feats x0))]] 0=some (bo true,[Ob.cells [st (Lexm.id x0),st (Lexm.cat x0),st (Lexm.stem x0),st (Lexm.par x0),lro (List.length (Lexm.feats x0)) 2 (List.flatMap featC (Lexm.feats x0))]]))
  (h4:callv X call false 43 [lro (List.length (Lexm.feats x0)) 2 (List.flatMap featC (Lexm.feats x0))] [Ob.cells [st (Lexm.id x0),st (Lexm.cat x0),st (Lexm.stem x0),st (Lexm.par x0),lro (List.length (Lexm.feats x0)) 2 (List.flatMap featC (Lexm.feats x0))]] 0=some (bo true,[Ob.cells [st (Lexm.id x0),st (Lexm.cat x0),st (Lexm.stem x0),st (Lexm.par x0),lro (List.length (Lexm.feats x0)) 2 (List.flatMap featC (Lexm.feats x0))]])):vbody Tryz.prog X call lf noFg Tryz.f19 (codeOf Tryz.f19) [lettsV a0,AV.agg (lexC x0)] [] 0=some (bo true,[Ob.cells [st (Lexm.id x0),st (Lexm.cat x0),st (Lexm.stem x0),st (Lexm.par x0),lro (List.length (Lexm.feats x0)) 2 (List.flatMap featC (Lexm.feats x0))]]) :=
  along_sound (ans:=[(6,Ans.v (bo true)),(13,Ans.v (bo true)),(21,Ans.b true),(38,Ans.v (bo true)),(46,Ans.v (bo true))]) (by kernel_rfl) (ai h0 (ai h1 (ai h2 (ai h3 (ai h4 trivial)))))
theorem f90019_pttttf (a0:List Lett) (x0:Lexm) (X:Ext) (call:Caller) (lf:Nat)
  (h0:callv X call false 41 [st (Lexm.id x0)] [Ob.cells [st (Lexm.id x0),st (Lexm.cat x0),st (Lexm.stem x0),st (Lexm.par x0),lro (List.length (Lexm.feats x0)) 2 (List.flatMap featC (Lexm.feats x0))]] 0=some (bo true,[Ob.cells [st (Lexm.id x0),st (Lexm.cat x0),st (Lexm.stem x0),st (Lexm.par x0),lro (List.length (Lexm.feats x0)) 2 (List.flatMap featC (Lexm.feats x0))]]))
  (h1:callv X call false 41 [st (Lexm.cat x0)] [Ob.cells [st (Lexm.id x0),st (Lexm.cat x0),st (Lexm.stem x0),st (Lexm.par x0),lro (List.length (Lexm.feats x0)) 2 (List.flatMap featC (Lexm.feats x0))]] 0=some (bo true,[Ob.cells [st (Lexm.id x0),st (Lexm.cat x0),st (Lexm.stem x0),st (Lexm.par x0),lro (List.length (Lexm.feats x0)) 2 (List.flatMap featC (Lexm.feats x0))]]))
  (h2:(ByteArray.toList (Lexm.par x0) == ByteArray.toList (ByteArray.mk #[]))=true)
  (h3:callv X call false 42 [lro (List.length a0) 2 (List.flatMap lettC a0),st (Lexm.stem x0)] [Ob.cells [st (Lexm.id x0),st (Lexm.cat x0),st (Lexm.stem x0),st (Lexm.par x0),lro (List.length (Lexm.feats x0)) 2 (List.flatMap featC (Lexm.feats x0))]] 0=some (bo true,[Ob.cells [st (Lexm.id x0),st (Lexm.cat x0),st (Lexm.stem x0),st (Lexm.par x0),lro (List.length (Lexm.feats x0)) 2 (List.flatMap featC (Lexm.feats x0))]]))
  (h4:callv X call false 43 [lro (List.length (Lexm.feats x0)) 2 (List.flatMap featC (Lexm.feats x0))] [Ob.cells [st (Lexm.id x0),st (Lexm.cat x0),st (Lexm.stem x0),st (Lexm.par x0),lro (List.length (Lexm.feats x0)) 2 (List.flatMap featC (Lexm.feats x0))]] 0=some (bo false,[Ob.cells [st (Lexm.id x0),st (Lexm.cat x0),st (Lexm.stem x0),st (Lexm.par x0),lro (List.length (Lexm.feats x0)) 2 (List.flatMap featC (Lexm.feats x0))]])):vbody Tryz.prog X call lf noFg Tryz.f19 (codeOf Tryz.f19) [lettsV a0,AV.agg (lexC x0)] [] 0=some (bo false,[Ob.cells [st (Lexm.id x0),st (Lexm.cat x0),st (Lexm.stem x0),st (Lexm.par x0),lro (List.length (Lexm.feats x0)) 2 (List.flatMap featC (Lexm.feats x0))]]) :=
  along_sound (ans:=[(6,Ans.v (bo true)),(13,Ans.v (bo true)),(21,Ans.b true),(38,Ans.v (bo true)),(46,Ans.v (bo false))]) (by kernel_rfl) (ai h0 (ai h1 (ai h2 (ai h3 (ai h4 trivial)))))
theorem f90019_ptttf (a0:List Lett) (x0:Lexm) (X:Ext) (call:Caller) (lf:Nat)
  (h0:callv X call false 41 [st (Lexm.id x0)] [Ob.cells [st (Lexm.id x0),st (Lexm.cat x0),st (Lexm.stem x0),st (Lexm.par x0),lro (List.length (Lexm.feats x0)) 2 (List.flatMap featC (Lexm.feats x0))]] 0=some (bo true,[Ob.cells [st (Lexm.id x0),st (Lexm.cat x0),st (Lexm.stem x0),st (Lexm.par x0),lro (List.length (Lexm.feats x0)) 2 (List.flatMap featC (Lexm.feats x0))]]))
  (h1:callv X call false 41 [st (Lexm.cat x0)] [Ob.cells [st (Lexm.id x0),st (Lexm.cat x0),st (Lexm.stem x0),st (Lexm.par x0),lro (List.length (Lexm.feats x0)) 2 (List.flatMap featC (Lexm.feats x0))]] 0=some (bo true,[Ob.cells [st (Lexm.id x0),st (Lexm.cat x0),st (Lexm.stem x0),st (Lexm.par x0),lro (List.length (Lexm.feats x0)) 2 (List.flatMap featC (Lexm.feats x0))]]))
  (h2:(ByteArray.toList (Lexm.par x0) == ByteArray.toList (ByteArray.mk #[]))=true)
  (h3:callv X call false 42 [lro (List.length a0) 2 (List.flatMap lettC a0),st (Lexm.stem x0)] [Ob.cells [st (Lexm.id x0),st (Lexm.cat x0),st (Lexm.stem x0),st (Lexm.par x0),lro (List.length (Lexm.feats x0)) 2 (List.flatMap featC (Lexm.feats x0))]] 0=some (bo false,[Ob.cells [st (Lexm.id x0),st (Lexm.cat x0),st (Lexm.stem x0),st (Lexm.par x0),lro (List.length (Lexm.feats x0)) 2 (List.flatMap featC (Lexm.feats x0))]])):vbody Tryz.prog X call lf noFg Tryz.f19 (codeOf Tryz.f19) [lettsV a0,AV.agg (lexC x0)] [] 0=some (bo false,[Ob.cells [st (Lexm.id x0),st (Lexm.cat x0),st (Lexm.stem x0),st (Lexm.par x0),lro (List.length (Lexm.feats x0)) 2 (List.flatMap featC (Lexm.feats x0))]]) :=
  along_sound (ans:=[(6,Ans.v (bo true)),(13,Ans.v (bo true)),(21,Ans.b true),(38,Ans.v (bo false))]) (by kernel_rfl) (ai h0 (ai h1 (ai h2 (ai h3 trivial))))
theorem f90019_pttfttt (a0:List Lett) (x0:Lexm) (X:Ext) (call:Caller) (lf:Nat)
  (h0:callv X call false 41 [st (Lexm.id x0)] [Ob.cells [st (Lexm.id x0),st (Lexm.cat x0),st (Lexm.stem x0),st (Lexm.par x0),lro (List.length (Lexm.feats x0)) 2 (List.flatMap featC (Lexm.feats x0))]] 0=some (bo true,[Ob.cells [st (Lexm.id x0),st (Lexm.cat x0),st (Lexm.stem x0),st (Lexm.par x0),lro (List.length (Lexm.feats x0)) 2 (List.flatMap featC (Lexm.feats x0))]]))
  (h1:callv X call false 41 [st (Lexm.cat x0)] [Ob.cells [st (Lexm.id x0),st (Lexm.cat x0),st (Lexm.stem x0),st (Lexm.par x0),lro (List.length (Lexm.feats x0)) 2 (List.flatMap featC (Lexm.feats x0))]] 0=some (bo true,[Ob.cells [st (Lexm.id x0),st (Lexm.cat x0),st (Lexm.stem x0),st (Lexm.par x0),lro (List.length (Lexm.feats x0)) 2 (List.flatMap featC (Lexm.feats x0))]]))
  (h2:(ByteArray.toList (Lexm.par x0) == ByteArray.toList (ByteArray.mk #[]))=false)
  (h3:callv X call false 41 [st (Lexm.par x0)] [Ob.cells [st (Lexm.id x0),st (Lexm.cat x0),st (Lexm.stem x0),st (Lexm.par x0),lro (List.length (Lexm.feats x0)) 2 (List.flatMap featC (Lexm.feats x0))]] 0=some (bo true,[Ob.cells [st (Lexm.id x0),st (Lexm.cat x0),st (Lexm.stem x0),st (Lexm.par x0),lro (List.length (Lexm.feats x0)) 2 (List.flatMap featC (Lexm.feats x0))]]))
  (h4:callv X call false 42 [lro (List.length a0) 2 (List.flatMap lettC a0),st (Lexm.stem x0)] [Ob.cells [st (Lexm.id x0),st (Lexm.cat x0),st (Lexm.stem x0),st (Lexm.par x0),lro (List.length (Lexm.feats x0)) 2 (List.flatMap featC (Lexm.feats x0))]] 0=some (bo true,[Ob.cells [st (Lexm.id x0),st (Lexm.cat x0),st (Lexm.stem x0),st (Lexm.par x0),lro (List.length (Lexm.feats x0)) 2 (List.flatMap featC (Lexm.feats x0))]]))
  (h5:callv X call false 43 [lro (List.length (Lexm.feats x0)) 2 (List.flatMap featC (Lexm.feats x0))] [Ob.cells [st (Lexm.id x0),st (Lexm.cat x0),st (Lexm.stem x0),st (Lexm.par x0),lro (List.length (Lexm.feats x0)) 2 (List.flatMap featC (Lexm.feats x0))]] 0=some (bo true,[Ob.cells [st (Lexm.id x0),st (Lexm.cat x0),st (Lexm.stem x0),st (Lexm.par x0),lro (List.length (Lexm.feats x0)) 2 (List.flatMap featC (Lexm.feats x0))]])):vbody Tryz.prog X call lf noFg Tryz.f19 (codeOf Tryz.f19) [lettsV a0,AV.agg (lexC x0)] [] 0=some (bo true,[Ob.cells [st (Lexm.id x0),st (Lexm.cat x0),st (Lexm.stem x0),st (Lexm.par x0),lro (List.length (Lexm.feats x0)) 2 (List.flatMap featC (Lexm.feats x0))]]) :=
  along_sound (ans:=[(6,Ans.v (bo true)),(13,Ans.v (bo true)),(21,Ans.b false),(29,Ans.v (bo true)),(41,Ans.v (bo true)),(49,Ans.v (bo true))]) (by kernel_rfl) (ai h0 (ai h1 (ai h2 (ai h3 (ai h4 (ai h5 trivial))))))
theorem f90019_pttfttf (a0:List Lett) (x0:Lexm) (X:Ext) (call:Caller) (lf:Nat)
  (h0:callv X call false 41 [st (Lexm.id x0)] [Ob.cells [st (Lexm.id x0),st (Lexm.cat x0),st (Lexm.stem x0),st (Lexm.par x0),lro (List.length (Lexm.feats x0)) 2 (List.flatMap featC (Lexm.feats x0))]] 0=some (bo true,[Ob.cells [st (Lexm.id x0),st (Lexm.cat x0),st (Lexm.stem x0),st (Lexm.par x0),lro (List.length (Lexm.feats x0)) 2 (List.flatMap featC (Lexm.feats x0))]]))
  (h1:callv X call false 41 [st (Lexm.cat x0)] [Ob.cells [st (Lexm.id x0),st (Lexm.cat x0),st (Lexm.stem x0),st (Lexm.par x0),lro (List.length (Lexm.feats x0)) 2 (List.flatMap featC (Lexm.feats x0))]] 0=some (bo true,[Ob.cells [st (Lexm.id x0),st (Lexm.cat x0),st (Lexm.stem x0),st (Lexm.par x0),lro (List.length (Lexm.feats x0)) 2 (List.flatMap featC (Lexm.feats x0))]]))
  (h2:(ByteArray.toList (Lexm.par x0) == ByteArray.toList (ByteArray.mk #[]))=false)
  (h3:callv X call false 41 [st (Lexm.par x0)] [Ob.cells [st (Lexm.id x0),st (Lexm.cat x0),st (Lexm.stem x0),st (Lexm.par x0),lro (List.length (Lexm.feats x0)) 2 (List.flatMap featC (Lexm.feats x0))]] 0=some (bo true,[Ob.cells [st (Lexm.id x0),st (Lexm.cat x0),st (Lexm.stem x0),st (Lexm.par x0),lro (List.length (Lexm.feats x0)) 2 (List.flatMap featC (Lexm.feats x0))]]))
  (h4:callv X call false 42 [lro (List.length a0) 2 (List.flatMap lettC a0),st (Lexm.stem x0)] [Ob.cells [st (Lexm.id x0),st (Lexm.cat x0),st (Lexm.stem x0),st (Lexm.par x0),lro (List.length (Lexm.feats x0)) 2 (List.flatMap featC (Lexm.feats x0))]] 0=some (bo true,[Ob.cells [st (Lexm.id x0),st (Lexm.cat x0),st (Lexm.stem x0),st (Lexm.par x0),lro (List.length (Lexm.feats x0)) 2 (List.flatMap featC (Lexm.feats x0))]]))
  (h5:callv X call false 43 [lro (List.length (Lexm.feats x0)) 2 (List.flatMap featC (Lexm.feats x0))] [Ob.cells [st (Lexm.id x0),st (Lexm.cat x0),st (Lexm.stem x0),st (Lexm.par x0),lro (List.length (Lexm.feats x0)) 2 (List.flatMap featC (Lexm.feats x0))]] 0=some (bo false,[Ob.cells [st (Lexm.id x0),st (Lexm.cat x0),st (Lexm.stem x0),st (Lexm.par x0),lro (List.length (Lexm.feats x0)) 2 (List.flatMap featC (Lexm.feats x0))]])):vbody Tryz.prog X call lf noFg Tryz.f19 (codeOf Tryz.f19) [lettsV a0,AV.agg (lexC x0)] [] 0=some (bo false,[Ob.cells [st (Lexm.id x0),st (Lexm.cat x0),st (Lexm.stem x0),st (Lexm.par x0),lro (List.length (Lexm.feats x0)) 2 (List.flatMap featC (Lexm.feats x0))]]) :=
  along_sound (ans:=[(6,Ans.v (bo true)),(13,Ans.v (bo true)),(21,Ans.b false),(29,Ans.v (bo true)),(41,Ans.v (bo true)),(49,Ans.v (bo false))]) (by kernel_rfl) (ai h0 (ai h1 (ai h2 (ai h3 (ai h4 (ai h5 trivial))))))
theorem f90019_pttftf (a0:List Lett) (x0:Lexm) (X:Ext) (call:Caller) (lf:Nat)
  (h0:callv X call false 41 [st (Lexm.id x0)] [Ob.cells [st (Lexm.id x0),st (Lexm.cat x0),st (Lexm.stem x0),st (Lexm.par x0),lro (List.length (Lexm.feats x0)) 2 (List.flatMap featC (Lexm.feats x0))]] 0=some (bo true,[Ob.cells [st (Lexm.id x0),st (Lexm.cat x0),st (Lexm.stem x0),st (Lexm.par x0),lro (List.length (Lexm.feats x0)) 2 (List.flatMap featC (Lexm.feats x0))]]))
  (h1:callv X call false 41 [st (Lexm.cat x0)] [Ob.cells [st (Lexm.id x0),st (Lexm.cat x0),st (Lexm.stem x0),st (Lexm.par x0),lro (List.length (Lexm.feats x0)) 2 (List.flatMap featC (Lexm.feats x0))]] 0=some (bo true,[Ob.cells [st (Lexm.id x0),st (Lexm.cat x0),st (Lexm.stem x0),st (Lexm.par x0),lro (List.length (Lexm.feats x0)) 2 (List.flatMap featC (Lexm.feats x0))]]))
  (h2:(ByteArray.toList (Lexm.par x0) == ByteArray.toList (ByteArray.mk #[]))=false)
  (h3:callv X call false 41 [st (Lexm.par x0)] [Ob.cells [st (Lexm.id x0),st (Lexm.cat x0),st (Lexm.stem x0),st (Lexm.par x0),lro (List.length (Lexm.feats x0)) 2 (List.flatMap featC (Lexm.feats x0))]] 0=some (bo true,[Ob.cells [st (Lexm.id x0),st (Lexm.cat x0),st (Lexm.stem x0),st (Lexm.par x0),lro (List.length (Lexm.feats x0)) 2 (List.flatMap featC (Lexm.feats x0))]]))
  (h4:callv X call false 42 [lro (List.length a0) 2 (List.flatMap lettC a0),st (Lexm.stem x0)] [Ob.cells [st (Lexm.id x0),st (Lexm.cat x0),st (Lexm.stem x0),st (Lexm.par x0),lro (List.length (Lexm.feats x0)) 2 (List.flatMap featC (Lexm.feats x0))]] 0=some (bo false,[Ob.cells [st (Lexm.id x0),st (Lexm.cat x0),st (Lexm.stem x0),st (Lexm.par x0),lro (List.length (Lexm.feats x0)) 2 (List.flatMap featC (Lexm.feats x0))]])):vbody Tryz.prog X call lf noFg Tryz.f19 (codeOf Tryz.f19) [lettsV a0,AV.agg (lexC x0)] [] 0=some (bo false,[Ob.cells [st (Lexm.id x0),st (Lexm.cat x0),st (Lexm.stem x0),st (Lexm.par x0),lro (List.length (Lexm.feats x0)) 2 (List.flatMap featC (Lexm.feats x0))]]) :=
  along_sound (ans:=[(6,Ans.v (bo true)),(13,Ans.v (bo true)),(21,Ans.b false),(29,Ans.v (bo true)),(41,Ans.v (bo false))]) (by kernel_rfl) (ai h0 (ai h1 (ai h2 (ai h3 (ai h4 trivial)))))
theorem f90019_pttff (a0:List Lett) (x0:Lexm) (X:Ext) (call:Caller) (lf:Nat)
  (h0:callv X call false 41 [st (Lexm.id x0)] [Ob.cells [st (Lexm.id x0),st (Lexm.cat x0),st (Lexm.stem x0),st (Lexm.par x0),lro (List.length (Lexm.feats x0)) 2 (List.flatMap featC (Lexm.feats x0))]] 0=some (bo true,[Ob.cells [st (Lexm.id x0),st (Lexm.cat x0),st (Lexm.stem x0),st (Lexm.par x0),lro (List.length (Lexm.feats x0)) 2 (List.flatMap featC (Lexm.feats x0))]]))
  (h1:callv X call false 41 [st (Lexm.cat x0)] [Ob.cells [st (Lexm.id x0),st (Lexm.cat x0),st (Lexm.stem x0),st (Lexm.par x0),lro (List.length (Lexm.feats x0)) 2 (List.flatMap featC (Lexm.feats x0))]] 0=some (bo true,[Ob.cells [st (Lexm.id x0),st (Lexm.cat x0),st (Lexm.stem x0),st (Lexm.par x0),lro (List.length (Lexm.feats x0)) 2 (List.flatMap featC (Lexm.feats x0))]]))
  (h2:(ByteArray.toList (Lexm.par x0) == ByteArray.toList (ByteArray.mk #[]))=false)
  (h3:callv X call false 41 [st (Lexm.par x0)] [Ob.cells [st (Lexm.id x0),st (Lexm.cat x0),st (Lexm.stem x0),st (Lexm.par x0),lro (List.length (Lexm.feats x0)) 2 (List.flatMap featC (Lexm.feats x0))]] 0=some (bo false,[Ob.cells [st (Lexm.id x0),st (Lexm.cat x0),st (Lexm.stem x0),st (Lexm.par x0),lro (List.length (Lexm.feats x0)) 2 (List.flatMap featC (Lexm.feats x0))]])):vbody Tryz.prog X call lf noFg Tryz.f19 (codeOf Tryz.f19) [lettsV a0,AV.agg (lexC x0)] [] 0=some (bo false,[Ob.cells [st (Lexm.id x0),st (Lexm.cat x0),st (Lexm.stem x0),st (Lexm.par x0),lro (List.length (Lexm.feats x0)) 2 (List.flatMap featC (Lexm.feats x0))]]) :=
  along_sound (ans:=[(6,Ans.v (bo true)),(13,Ans.v (bo true)),(21,Ans.b false),(29,Ans.v (bo false))]) (by kernel_rfl) (ai h0 (ai h1 (ai h2 (ai h3 trivial))))
theorem f90019_ptf (a0:List Lett) (x0:Lexm) (X:Ext) (call:Caller) (lf:Nat)
  (h0:callv X call false 41 [st (Lexm.id x0)] [Ob.cells [st (Lexm.id x0),st (Lexm.cat x0),st (Lexm.stem x0),st (Lexm.par x0),lro (List.length (Lexm.feats x0)) 2 (List.flatMap featC (Lexm.feats x0))]] 0=some (bo true,[Ob.cells [st (Lexm.id x0),st (Lexm.cat x0),st (Lexm.stem x0),st (Lexm.par x0),lro (List.length (Lexm.feats x0)) 2 (List.flatMap featC (Lexm.feats x0))]]))
  (h1:callv X call false 41 [st (Lexm.cat x0)] [Ob.cells [st (Lexm.id x0),st (Lexm.cat x0),st (Lexm.stem x0),st (Lexm.par x0),lro (List.length (Lexm.feats x0)) 2 (List.flatMap featC (Lexm.feats x0))]] 0=some (bo false,[Ob.cells [st (Lexm.id x0),st (Lexm.cat x0),st (Lexm.stem x0),st (Lexm.par x0),lro (List.length (Lexm.feats x0)) 2 (List.flatMap featC (Lexm.feats x0))]])):vbody Tryz.prog X call lf noFg Tryz.f19 (codeOf Tryz.f19) [lettsV a0,AV.agg (lexC x0)] [] 0=some (bo false,[Ob.cells [st (Lexm.id x0),st (Lexm.cat x0),st (Lexm.stem x0),st (Lexm.par x0),lro (List.length (Lexm.feats x0)) 2 (List.flatMap featC (Lexm.feats x0))]]) :=
  along_sound (ans:=[(6,Ans.v (bo true)),(13,Ans.v (bo false))]) (by kernel_rfl) (ai h0 (ai h1 trivial))
theorem f90019_pf (a0:List Lett) (x0:Lexm) (X:Ext) (call:Caller) (lf:Nat)
  (h0:callv X call false 41 [st (Lexm.id x0)] [Ob.cells [st (Lexm.id x0),st (Lexm.cat x0),st (Lexm.stem x0),st (Lexm.par x0),lro (List.length (Lexm.feats x0)) 2 (List.flatMap featC (Lexm.feats x0))]] 0=some (bo false,[Ob.cells [st (Lexm.id x0),st (Lexm.cat x0),st (Lexm.stem x0),st (Lexm.par x0),lro (List.length (Lexm.feats x0)) 2 (List.flatMap featC (Lexm.feats x0))]])):vbody Tryz.prog X call lf noFg Tryz.f19 (codeOf Tryz.f19) [lettsV a0,AV.agg (lexC x0)] [] 0=some (bo false,[Ob.cells [st (Lexm.id x0),st (Lexm.cat x0),st (Lexm.stem x0),st (Lexm.par x0),lro (List.length (Lexm.feats x0)) 2 (List.flatMap featC (Lexm.feats x0))]]) :=
  along_sound (ans:=[(6,Ans.v (bo false))]) (by kernel_rfl) (ai h0 trivial)
def f90019_q0 (x0:Lexm) (b0:Bool) (b1:Bool) (b2:Bool) (b3:Bool) (b4:Bool) (b5:Bool) (b6:Bool):Nat :=
  (match b0 with
  | true => (match b1 with
    | true => (match (ByteArray.toList (Lexm.par x0) == ByteArray.toList (ByteArray.mk #[])) with
      | true => (match b2 with
        | true => (match b3 with
          | true=>0
          | false=>1)
        | false=>1)
      | false => (match b4 with
        | true => (match b5 with
          | true => (match b6 with
            | true=>0
            | false=>1)
          | false=>1)
        | false=>1))
    | false=>1)
  | false=>1)
theorem f90019_P0 (a0:List Lett) (x0:Lexm) (X:Ext) (call:Caller) (lf:Nat) (b0:Bool) (b1:Bool) (b2:Bool) (b3:Bool) (b4:Bool) (b5:Bool) (b6:Bool)
  (g0:callv X call false 41 [st (Lexm.id x0)] [Ob.cells [st (Lexm.id x0),st (Lexm.cat x0),st (Lexm.stem x0),st (Lexm.par x0),lro (List.length (Lexm.feats x0)) 2 (List.flatMap featC (Lexm.feats x0))]] 0=some (bo b0,[Ob.cells [st (Lexm.id x0),st (Lexm.cat x0),st (Lexm.stem x0),st (Lexm.par x0),lro (List.length (Lexm.feats x0)) 2 (List.flatMap featC (Lexm.feats x0))]]))
  (g1:b0=true→callv X call false 41 [st (Lexm.cat x0)] [Ob.cells [st (Lexm.id x0),st (Lexm.cat x0),st (Lexm.stem x0),st (Lexm.par x0),lro (List.length (Lexm.feats x0)) 2 (List.flatMap featC (Lexm.feats x0))]] 0=some (bo b1,[Ob.cells [st (Lexm.id x0),st (Lexm.cat x0),st (Lexm.stem x0),st (Lexm.par x0),lro (List.length (Lexm.feats x0)) 2 (List.flatMap featC (Lexm.feats x0))]]))
  (g2:b0=true→b1=true→(ByteArray.toList (Lexm.par x0) == ByteArray.toList (ByteArray.mk #[]))=true→callv X call false 42 [lro (List.length a0) 2 (List.flatMap lettC a0),st (Lexm.stem x0)] [Ob.cells [st (Lexm.id x0),st (Lexm.cat x0),st (Lexm.stem x0),st (Lexm.par x0),lro (List.length (Lexm.feats x0)) 2 (List.flatMap featC (Lexm.feats x0))]] 0=some (bo b2,[Ob.cells [st (Lexm.id x0),st (Lexm.cat x0),st (Lexm.stem x0),st (Lexm.par x0),lro (List.length (Lexm.feats x0)) 2 (List.flatMap featC (Lexm.feats x0))]]))
  (g3:b0=true→b1=true→(ByteArray.toList (Lexm.par x0) == ByteArray.toList (ByteArray.mk #[]))=true→b2=true→callv X call false 43 [lro (List.length (Lexm.feats x0)) 2 (List.flatMap featC (Lexm.feats x0))] [Ob.cells [st (Lexm.id x0),st (Lexm.cat x0),st (Lexm.stem x0),st (Lexm.par x0),lro (List.length (Lexm.feats x0)) 2 (List.flatMap featC (Lexm.feats x0))]] 0=some (bo b3,[Ob.cells [st (Lexm.id x0),st (Lexm.cat x0),st (Lexm.stem x0),st (Lexm.par x0),lro (List.length (Lexm.feats x0)) 2 (List.flatMap featC (Lexm.feats x0))]]))
  (g4:b0=true→b1=true→(ByteArray.toList (Lexm.par x0) == ByteArray.toList (ByteArray.mk #[]))=false→callv X call false 41 [st (Lexm.par x0)] [Ob.cells [st (Lexm.id x0),st (Lexm.cat x0),st (Lexm.stem x0),st (Lexm.par x0),lro (List.length (Lexm.feats x0)) 2 (List.flatMap featC (Lexm.feats x0))]] 0=some (bo b4,[Ob.cells [st (Lexm.id x0),st (Lexm.cat x0),st (Lexm.stem x0),st (Lexm.par x0),lro (List.length (Lexm.feats x0)) 2 (List.flatMap featC (Lexm.feats x0))]]))
  (g5:b0=true→b1=true→(ByteArray.toList (Lexm.par x0) == ByteArray.toList (ByteArray.mk #[]))=false→b4=true→callv X call false 42 [lro (List.length a0) 2 (List.flatMap lettC a0),st (Lexm.stem x0)] [Ob.cells [st (Lexm.id x0),st (Lexm.cat x0),st (Lexm.stem x0),st (Lexm.par x0),lro (List.length (Lexm.feats x0)) 2 (List.flatMap featC (Lexm.feats x0))]] 0=some (bo b5,[Ob.cells [st (Lexm.id x0),st (Lexm.cat x0),st (Lexm.stem x0),st (Lexm.par x0),lro (List.length (Lexm.feats x0)) 2 (List.flatMap featC (Lexm.feats x0))]]))
  (g6 : b0 = true → b1 = true → (ByteArray.toList (Lexm.par x0) == ByteArray.toList (ByteArray.mk #[])) = false → b4 = true → b5 = true → callv X call false 43 [lro (List.length (Lexm.feats x0)) 2 (List.flatMap featC (Lexm.feats x0))] [Ob.cells [st (Lexm.id x0), st (Lexm.cat x0), st (Lexm.stem x0), st (Lexm.par x0), lro (List.length (Lexm.feats x0)) 2 (List.flatMap featC (Lexm.feats x0))]] 0 = some (bo b6, [Ob.cells [st (Lexm.id x0), st (Lexm.cat x0), st (Lexm.stem x0), st (Lexm.par x0), lro (List.length (Lexm.feats x0)) 2 (List.flatMap featC (Lexm.feats x0))]])) :
    (f90019_q0 x0 b0 b1 b2 b3 b4 b5 b6=0→vbody Tryz.prog X call lf noFg Tryz.f19 (codeOf Tryz.f19) [lettsV a0,AV.agg (lexC x0)] [] 0=some (bo true,[Ob.cells [st (Lexm.id x0),st (Lexm.cat x0),st (Lexm.stem x0),st (Lexm.par x0),lro (List.length (Lexm.feats x0)) 2 (List.flatMap featC (Lexm.feats x0))]]))∧(f90019_q0 x0 b0 b1 b2 b3 b4 b5 b6=1→vbody Tryz.prog X call lf noFg Tryz.f19 (codeOf Tryz.f19) [lettsV a0,AV.agg (lexC x0)] [] 0=some (bo false,[Ob.cells [st (Lexm.id x0),st (Lexm.cat x0),st (Lexm.stem x0),st (Lexm.par x0),lro (List.length (Lexm.feats x0)) 2 (List.flatMap featC (Lexm.feats x0))]])):=by
  unfold f90019_q0
  cases c0:b0 with
  | true =>
    cases c1:b1 with
    | true =>
      cases c2:(ByteArray.toList (Lexm.par x0) == ByteArray.toList (ByteArray.mk #[])) with
      | true =>
        cases c3:b2 with
        | true =>
          cases c4:b3 with
          | true =>
            exact ⟨fun _=>f90019_pttttt a0 x0 X call lf (by rw [c0] at g0; exact g0) (by have:=(g1 c0); rw [c1] at this; exact this) c2 (by have:=(g2 c0 c1 c2); rw [c3] at this; exact this) (by have:=(g3 c0 c1 c2 c3); rw [c4] at this; exact this),fun h=>nq h⟩
          | false =>
            exact ⟨fun h=>nq h,fun _=>f90019_pttttf a0 x0 X call lf (by rw [c0] at g0; exact g0) (by have:=(g1 c0); rw [c1] at this; exact this) c2 (by have:=(g2 c0 c1 c2); rw [c3] at this; exact this) (by have:=(g3 c0 c1 c2 c3); rw [c4] at this; exact this)⟩
        | false =>
          exact ⟨fun h=>nq h,fun _=>f90019_ptttf a0 x0 X call lf (by rw [c0] at g0; exact g0) (by have:=(g1 c0); rw [c1] at this; exact this) c2 (by have:=(g2 c0 c1 c2); rw [c3] at this; exact this)⟩
      | false =>
        cases c3:b4 with
        | true =>
          cases c4:b5 with
          | true =>
            cases c5:b6 with
            | true =>
              exact ⟨fun _=>f90019_pttfttt a0 x0 X call lf (by rw [c0] at g0; exact g0) (by have:=(g1 c0); rw [c1] at this; exact this) c2 (by have:=(g4 c0 c1 c2); rw [c3] at this; exact this) (by have:=(g5 c0 c1 c2 c3); rw [c4] at this; exact this) (by have:=(g6 c0 c1 c2 c3 c4); rw [c5] at this; exact this),fun h=>nq h⟩
            | false =>
              exact ⟨fun h=>nq h,fun _=>f90019_pttfttf a0 x0 X call lf (by rw [c0] at g0; exact g0) (by have:=(g1 c0); rw [c1] at this; exact this) c2 (by have:=(g4 c0 c1 c2); rw [c3] at this; exact this) (by have:=(g5 c0 c1 c2 c3); rw [c4] at this; exact this) (by have:=(g6 c0 c1 c2 c3 c4); rw [c5] at this; exact this)⟩
          | false =>
            exact ⟨fun h=>nq h,fun _=>f90019_pttftf a0 x0 X call lf (by rw [c0] at g0; exact g0) (by have:=(g1 c0); rw [c1] at this; exact this) c2 (by have:=(g4 c0 c1 c2); rw [c3] at this; exact this) (by have:=(g5 c0 c1 c2 c3); rw [c4] at this; exact this)⟩
        | false =>
          exact ⟨fun h=>nq h,fun _=>f90019_pttff a0 x0 X call lf (by rw [c0] at g0; exact g0) (by have:=(g1 c0); rw [c1] at this; exact this) c2 (by have:=(g4 c0 c1 c2); rw [c3] at this; exact this)⟩
    | false =>
      exact ⟨fun h=>nq h,fun _=>f90019_ptf a0 x0 X call lf (by rw [c0] at g0; exact g0) (by have:=(g1 c0); rw [c1] at this; exact this)⟩
  | false =>
    exact ⟨fun h=>nq h,fun _=>f90019_pf a0 x0 X call lf (by rw [c0] at g0; exact g0)⟩
def fg9007:Nat→List Nat
  | 1=>[6,7,8,9,10,11,12]
  | 4=>[14,15,16]
  | 6=>[20,21,22,23,24,25,26,27,28,29,30,31,32,33,34,35,36]
  | 5=>[18,19]
  | _=>[]
theorem f9007_ptt (a0:List Lett) (x0:List Lexm) (X:Ext) (call:Caller) (lf:Nat)
  (h0:callv X call false 18 [lro (List.length a0) 2 (List.flatMap lettC a0)] [] 0=some (bo true,[]))
  (h1:decide ((↑(List.length x0):Int) > 256)=true):vbody Tryz.prog X call lf fg9007 Tryz.f7 (codeOf Tryz.f7) [lettsV a0,lexsV x0] [] 0=some (bo false,[]) :=
  along_sound (ans:=[(4,Ans.v (bo true)),(12,Ans.b true)]) (by kernel_rfl) (ai h0 (ai h1 trivial))
def f9007_F0 (a0:List Lett) (x0:List Lexm) (i0:Nat):St :=
  stOf 38 [4,6,7,8,9,10,11,12,14,15,16,17,18,19,20,21,22,23,24,25,26,27,28,29,30,31,32,33,34,35,36,37] [(0,lro (List.length a0) 2 (List.flatMap lettC a0)),(1,lro (List.length x0) 5 (List.flatMap lexC x0)),(5,i6 (↑i0:Int)),(13,bo false)] []
def f9007_S0 (a0:List Lett) (x0:List Lexm):St :=
  stOf 38 [6,7,8,9,10,11,12] [(0,lro (List.length a0) 2 (List.flatMap lettC a0)),(1,lro (List.length x0) 5 (List.flatMap lexC x0)),(4,bo false),(5,i6 0),(13,bo false)] []
abbrev f9007_D0:List Nat:=[19,18,4,37,36,35,34,33,32,31,30,29,28,27,26,25,24,23,22,21,20,17,16,15,14]
theorem f9007_L0 (a0:List Lett) (x0:List Lexm) (X:Ext) (call:Caller) (lf:Nat) (n:Nat) (x:Ex) (S' : St)
  (hn:n < lf)
  (hs:∀ j,j < n→∃ Sx,vexec Tryz.prog X call lf 0 fg9007 (loopN Tryz.f7 0) (f9007_F0 a0 x0 j)=some (Ex.normal,Sx)∧forget f9007_D0 Sx=(f9007_F0 a0 x0 (j + 1)))
  (he:vexec Tryz.prog X call lf 0 fg9007 (loopN Tryz.f7 0) (f9007_F0 a0 x0 n)=some (x,S'))
  (hx:x ≠ Ex.normal):vexec Tryz.prog X call lf 0 fg9007 (Go.Code.loop (loopN Tryz.f7 0)) (f9007_S0 a0 x0)=some (x,S') :=
  loop_runK (by kernel_rfl) (fun j=>(f9007_F0 a0 x0 j)) n hn (by show forget f9007_D0 (f9007_S0 a0 x0)=(f9007_F0 a0 x0 0); unfold f9007_F0; show _=_; kernel_rfl) hs he hx
def f9007_S1 (a0:List Lett) (x0:List Lexm) (i0:Nat):St :=
  stOf 38 [6,7,8,9,10,11,12,14,15,16,18,19,20,21,22,23,24,25,26,27,28,29,30,31,32,33,34,35,36] [(0,lro (List.length a0) 2 (List.flatMap lettC a0)),(1,lro (List.length x0) 5 (List.flatMap lexC x0)),(4,bo false),(5,i6 (↑i0:Int)),(13,bo false),(17,bo true),(37,bo true)] []
theorem f9007_r0_ttt (a0:List Lett) (x0:List Lexm) (X:Ext) (call:Caller) (lf:Nat) (i0:Nat) (x23_0_0:ByteArray) (x23_0_1:ByteArray) (x23_0_2:ByteArray) (x23_0_3:ByteArray) (m23_0_4:Nat) (c23_0_4:List AV) (r23:List AV) (x31_0_0:ByteArray) (x31_0_1:ByteArray) (x31_0_2:ByteArray) (x31_0_3:ByteArray) (m31_0_4:Nat) (c31_0_4:List AV) (r31:List AV) (n34:Int)
  (h0:decide ((↑i0:Int) < (↑(List.length x0):Int))=true)
  (h1:keep [] (indexAddrv Tryz.prog 23 [] (lro (List.length x0) 5 (List.flatMap lexC x0)) (i6 (↑i0:Int)))=some (AV.eaddr (st x23_0_0::st x23_0_1::st x23_0_2::st x23_0_3::lro m23_0_4 2 c23_0_4::r23),[]))
  (h2:callv X call false 19 [lro (List.length a0) 2 (List.flatMap lettC a0),AV.agg [st x23_0_0,st x23_0_1,st x23_0_2,st x23_0_3,lro m23_0_4 2 c23_0_4]] [] 0=some (bo true,[]))
  (h3:keep [] (indexAddrv Tryz.prog 23 [] (lro (List.length x0) 5 (List.flatMap lexC x0)) (i6 (↑i0:Int)))=some (AV.eaddr (st x31_0_0::st x31_0_1::st x31_0_2::st x31_0_3::lro m31_0_4 2 c31_0_4::r31),[]))
  (h4:callv X call false 20 [lro (List.length x0) 5 (List.flatMap lexC x0),st x31_0_0] [] 0=some (i6 n34,[]))
  (h5:(n34 != (↑i0:Int))=true):vexec Tryz.prog X call lf 0 fg9007 (loopN Tryz.f7 0) (f9007_F0 a0 x0 i0)=some (Ex.ret,(f9007_S1 a0 x0 i0)) :=
  around_sound (ans:=[(4,Ans.b true),(10,Ans.v (AV.eaddr (st x23_0_0::st x23_0_1::st x23_0_2::st x23_0_3::lro m23_0_4 2 c23_0_4::r23))),(12,Ans.v (bo true)),(22,Ans.v (AV.eaddr (st x31_0_0::st x31_0_1::st x31_0_2::st x31_0_3::lro m31_0_4 2 c31_0_4::r31))),(28,Ans.v (i6 n34)),(32,Ans.b true)]) (by kernel_rfl) (ai h0 (ai h1 (ai h2 (ai h3 (ai h4 (ai h5 trivial))))))
theorem f9007_ptflttt (a0:List Lett) (x0:List Lexm) (X:Ext) (call:Caller) (lf:Nat) (i0:Nat)
  (h0:callv X call false 18 [lro (List.length a0) 2 (List.flatMap lettC a0)] [] 0=some (bo true,[]))
  (h1:decide ((↑(List.length x0):Int) > 256)=false)
  (h2:vexec Tryz.prog X call lf 0 fg9007 (Code.loop (loopN Tryz.f7 0)) (f9007_S0 a0 x0)=some (Ex.ret,(f9007_S1 a0 x0 i0))):vbody Tryz.prog X call lf fg9007 Tryz.f7 (codeOf Tryz.f7) [lettsV a0,lexsV x0] [] 0=some (bo false,[]) :=
  along_sound (ans:=[(4,Ans.v (bo true)),(12,Ans.b false),(17,Ans.l Ex.ret (f9007_S1 a0 x0 i0))]) (by kernel_rfl) (ai h0 (ai h1 (ai h2 trivial)))
theorem f9007_s0_ttf (a0:List Lett) (x0:List Lexm) (X:Ext) (call:Caller) (lf:Nat) (i0:Nat) (x23_0_0:ByteArray) (x23_0_1:ByteArray) (x23_0_2:ByteArray) (x23_0_3:ByteArray) (m23_0_4:Nat) (c23_0_4:List AV) (r23:List AV) (x31_0_0:ByteArray) (x31_0_1:ByteArray) (x31_0_2:ByteArray) (x31_0_3:ByteArray) (m31_0_4:Nat) (c31_0_4:List AV) (r31:List AV) (n34:Int)
  (h0:decide ((↑i0:Int) < (↑(List.length x0):Int))=true)
  (h1:keep [] (indexAddrv Tryz.prog 23 [] (lro (List.length x0) 5 (List.flatMap lexC x0)) (i6 (↑i0:Int)))=some (AV.eaddr (st x23_0_0::st x23_0_1::st x23_0_2::st x23_0_3::lro m23_0_4 2 c23_0_4::r23),[]))
  (h2:callv X call false 19 [lro (List.length a0) 2 (List.flatMap lettC a0),AV.agg [st x23_0_0,st x23_0_1,st x23_0_2,st x23_0_3,lro m23_0_4 2 c23_0_4]] [] 0=some (bo true,[]))
  (h3:keep [] (indexAddrv Tryz.prog 23 [] (lro (List.length x0) 5 (List.flatMap lexC x0)) (i6 (↑i0:Int)))=some (AV.eaddr (st x31_0_0::st x31_0_1::st x31_0_2::st x31_0_3::lro m31_0_4 2 c31_0_4::r31),[]))
  (h4:callv X call false 20 [lro (List.length x0) 5 (List.flatMap lexC x0),st x31_0_0] [] 0=some (i6 n34,[]))
  (h5:(n34 != (↑i0:Int))=false)
  (e0:(↑(i0 + 1):Int)=w6 ((↑i0:Int) + 1)):∃ Sx,vexec Tryz.prog X call lf 0 fg9007 (loopN Tryz.f7 0) (f9007_F0 a0 x0 i0)=some (Ex.normal,Sx)∧forget f9007_D0 Sx=(f9007_F0 a0 x0 (i0 + 1)) :=
  ⟨stOf 38 [4,6,7,8,9,10,11,12,14,15,16,18,19,20,21,22,23,24,25,26,27,28,29,30,31,32,33,34,35,36] [(0,lro (List.length a0) 2 (List.flatMap lettC a0)),(1,lro (List.length x0) 5 (List.flatMap lexC x0)),(5,i6 (w6 ((↑i0:Int) + 1))),(13,bo false),(17,bo true),(37,bo false)] [],around_sound (ans:=[(4,Ans.b true),(10,Ans.v (AV.eaddr (st x23_0_0::st x23_0_1::st x23_0_2::st x23_0_3::lro m23_0_4 2 c23_0_4::r23))),(12,Ans.v (bo true)),(22,Ans.v (AV.eaddr (st x31_0_0::st x31_0_1::st x31_0_2::st x31_0_3::lro m31_0_4 2 c31_0_4::r31))),(28,Ans.v (i6 n34)),(32,Ans.b false)]) (by kernel_rfl) (ai h0 (ai h1 (ai h2 (ai h3 (ai h4 (ai h5 trivial)))))),by unfold f9007_F0; rw [e0]; show _=_; kernel_rfl⟩
theorem f9007_r0_tf (a0:List Lett) (x0:List Lexm) (X:Ext) (call:Caller) (lf:Nat) (i0:Nat) (x23_0_0:ByteArray) (x23_0_1:ByteArray) (x23_0_2:ByteArray) (x23_0_3:ByteArray) (m23_0_4:Nat) (c23_0_4:List AV) (r23:List AV)
  (h0:decide ((↑i0:Int) < (↑(List.length x0):Int))=true)
  (h1:keep [] (indexAddrv Tryz.prog 23 [] (lro (List.length x0) 5 (List.flatMap lexC x0)) (i6 (↑i0:Int)))=some (AV.eaddr (st x23_0_0::st x23_0_1::st x23_0_2::st x23_0_3::lro m23_0_4 2 c23_0_4::r23),[]))
  (h2:callv X call false 19 [lro (List.length a0) 2 (List.flatMap lettC a0),AV.agg [st x23_0_0,st x23_0_1,st x23_0_2,st x23_0_3,lro m23_0_4 2 c23_0_4]] [] 0=some (bo false,[])):vexec Tryz.prog X call lf 0 fg9007 (loopN Tryz.f7 0) (f9007_F0 a0 x0 i0)=some (Ex.ret,(f9007_S1 a0 x0 i0)) :=
  around_sound (ans:=[(4,Ans.b true),(10,Ans.v (AV.eaddr (st x23_0_0::st x23_0_1::st x23_0_2::st x23_0_3::lro m23_0_4 2 c23_0_4::r23))),(12,Ans.v (bo false))]) (by kernel_rfl) (ai h0 (ai h1 (ai h2 trivial)))
theorem f9007_ptfltf (a0:List Lett) (x0:List Lexm) (X:Ext) (call:Caller) (lf:Nat) (i0:Nat)
  (h0:callv X call false 18 [lro (List.length a0) 2 (List.flatMap lettC a0)] [] 0=some (bo true,[]))
  (h1:decide ((↑(List.length x0):Int) > 256)=false)
  (h2:vexec Tryz.prog X call lf 0 fg9007 (Code.loop (loopN Tryz.f7 0)) (f9007_S0 a0 x0)=some (Ex.ret,(f9007_S1 a0 x0 i0))):vbody Tryz.prog X call lf fg9007 Tryz.f7 (codeOf Tryz.f7) [lettsV a0,lexsV x0] [] 0=some (bo false,[]) :=
  along_sound (ans:=[(4,Ans.v (bo true)),(12,Ans.b false),(17,Ans.l Ex.ret (f9007_S1 a0 x0 i0))]) (by kernel_rfl) (ai h0 (ai h1 (ai h2 trivial)))
def f9007_S2 (a0:List Lett) (x0:List Lexm) (i0:Nat):St :=
  stOf 38 [4,6,7,8,9,10,11,12,14,15,16,18,19,20,21,22,23,24,25,26,27,28,29,30,31,32,33,34,35,36,37] [(0,lro (List.length a0) 2 (List.flatMap lettC a0)),(1,lro (List.length x0) 5 (List.flatMap lexC x0)),(5,i6 (↑i0:Int)),(13,bo false),(17,bo false)] []
theorem f9007_r0_f (a0:List Lett) (x0:List Lexm) (X:Ext) (call:Caller) (lf:Nat) (i0:Nat)
  (h0:decide ((↑i0:Int) < (↑(List.length x0):Int))=false):vexec Tryz.prog X call lf 0 fg9007 (loopN Tryz.f7 0) (f9007_F0 a0 x0 i0)=some (Ex.exit 0,(f9007_S2 a0 x0 i0)) :=
  around_sound (ans:=[(4,Ans.b false)]) (by kernel_rfl) (ai h0 trivial)
theorem f9007_ptflf (a0:List Lett) (x0:List Lexm) (X:Ext) (call:Caller) (lf:Nat) (i0:Nat)
  (h0:callv X call false 18 [lro (List.length a0) 2 (List.flatMap lettC a0)] [] 0=some (bo true,[]))
  (h1:decide ((↑(List.length x0):Int) > 256)=false)
  (h2:vexec Tryz.prog X call lf 0 fg9007 (Code.loop (loopN Tryz.f7 0)) (f9007_S0 a0 x0)=some (Ex.exit 0,(f9007_S2 a0 x0 i0))):vbody Tryz.prog X call lf fg9007 Tryz.f7 (codeOf Tryz.f7) [lettsV a0,lexsV x0] [] 0=some (bo true,[]) :=
  along_sound (ans:=[(4,Ans.v (bo true)),(12,Ans.b false),(17,Ans.l (Ex.exit 0) (f9007_S2 a0 x0 i0))]) (by kernel_rfl) (ai h0 (ai h1 (ai h2 trivial)))
theorem f9007_pf (a0:List Lett) (x0:List Lexm) (X:Ext) (call:Caller) (lf:Nat)
  (h0:callv X call false 18 [lro (List.length a0) 2 (List.flatMap lettC a0)] [] 0=some (bo false,[])):vbody Tryz.prog X call lf fg9007 Tryz.f7 (codeOf Tryz.f7) [lettsV a0,lexsV x0] [] 0=some (bo false,[]) :=
  along_sound (ans:=[(4,Ans.v (bo false))]) (by kernel_rfl) (ai h0 trivial)
def f9007_o0 (x0:List Lexm) (i0:Nat) (n34:Int) (b0:Bool):Nat :=
  (match decide ((↑i0:Int) < (↑(List.length x0):Int)) with
  | true => (match b0 with
    | true => (match (n34 != (↑i0 : Int)) with
      | true=>1
      | false=>0)
    | false=>1)
  | false=>2)
theorem f9007_B0 (a0:List Lett) (x0:List Lexm) (X:Ext) (call:Caller) (lf:Nat) (i0:Nat) (x23_0_0:ByteArray) (x23_0_1:ByteArray) (x23_0_2:ByteArray) (x23_0_3:ByteArray) (m23_0_4:Nat) (c23_0_4:List AV) (r23:List AV) (x31_0_0:ByteArray) (x31_0_1:ByteArray) (x31_0_2:ByteArray) (x31_0_3:ByteArray) (m31_0_4:Nat) (c31_0_4:List AV) (r31:List AV) (n34:Int) (b0:Bool)
  (g0:decide ((↑i0:Int) < (↑(List.length x0):Int))=true→keep [] (indexAddrv Tryz.prog 23 [] (lro (List.length x0) 5 (List.flatMap lexC x0)) (i6 (↑i0:Int)))=some (AV.eaddr (st x23_0_0::st x23_0_1::st x23_0_2::st x23_0_3::lro m23_0_4 2 c23_0_4::r23),[]))
  (g1:decide ((↑i0:Int) < (↑(List.length x0):Int))=true→callv X call false 19 [lro (List.length a0) 2 (List.flatMap lettC a0),AV.agg [st x23_0_0,st x23_0_1,st x23_0_2,st x23_0_3,lro m23_0_4 2 c23_0_4]] [] 0=some (bo b0,[]))
  (g2:decide ((↑i0:Int) < (↑(List.length x0):Int))=true→b0=true→keep [] (indexAddrv Tryz.prog 23 [] (lro (List.length x0) 5 (List.flatMap lexC x0)) (i6 (↑i0:Int)))=some (AV.eaddr (st x31_0_0::st x31_0_1::st x31_0_2::st x31_0_3::lro m31_0_4 2 c31_0_4::r31),[]))
  (g3:decide ((↑i0:Int) < (↑(List.length x0):Int))=true→b0=true→callv X call false 20 [lro (List.length x0) 5 (List.flatMap lexC x0),st x31_0_0] [] 0=some (i6 n34,[]))
  (e0 : decide ((↑i0 : Int) < (↑(List.length x0) : Int)) = true → (↑(i0 + 1) : Int) = w6 ((↑i0 : Int) + 1)) :
    (f9007_o0 x0 i0 n34 b0=0→∃ Sx,vexec Tryz.prog X call lf 0 fg9007 (loopN Tryz.f7 0) (f9007_F0 a0 x0 i0)=some (Ex.normal,Sx)∧forget f9007_D0 Sx=(f9007_F0 a0 x0 (i0 + 1)))∧(f9007_o0 x0 i0 n34 b0=1→vexec Tryz.prog X call lf 0 fg9007 (loopN Tryz.f7 0) (f9007_F0 a0 x0 i0)=some (Ex.ret,(f9007_S1 a0 x0 i0)))∧(f9007_o0 x0 i0 n34 b0=2→vexec Tryz.prog X call lf 0 fg9007 (loopN Tryz.f7 0) (f9007_F0 a0 x0 i0)=some (Ex.exit 0,(f9007_S2 a0 x0 i0))):=by
  unfold f9007_o0
  cases c0:decide ((↑i0:Int) < (↑(List.length x0):Int)) with
  | true =>
    cases c1:b0 with
    | true =>
      cases c2:(n34 != (↑i0:Int)) with
      | true =>
        exact ⟨fun h=>nq h,fun _=>f9007_r0_ttt a0 x0 X call lf i0 x23_0_0 x23_0_1 x23_0_2 x23_0_3 m23_0_4 c23_0_4 r23 x31_0_0 x31_0_1 x31_0_2 x31_0_3 m31_0_4 c31_0_4 r31 n34 c0 (g0 c0) (by have:=(g1 c0); rw [c1] at this; exact this) (g2 c0 c1) (g3 c0 c1) c2,fun h=>nq h⟩
      | false =>
        exact ⟨fun _=>f9007_s0_ttf a0 x0 X call lf i0 x23_0_0 x23_0_1 x23_0_2 x23_0_3 m23_0_4 c23_0_4 r23 x31_0_0 x31_0_1 x31_0_2 x31_0_3 m31_0_4 c31_0_4 r31 n34 c0 (g0 c0) (by have:=(g1 c0); rw [c1] at this; exact this) (g2 c0 c1) (g3 c0 c1) c2 (e0 c0),fun h=>nq h,fun h=>nq h⟩
    | false =>
      exact ⟨fun h=>nq h,fun _=>f9007_r0_tf a0 x0 X call lf i0 x23_0_0 x23_0_1 x23_0_2 x23_0_3 m23_0_4 c23_0_4 r23 c0 (g0 c0) (by have:=(g1 c0); rw [c1] at this; exact this),fun h=>nq h⟩
  | false =>
    exact ⟨fun h=>nq h,fun h=>nq h,fun _=>f9007_r0_f a0 x0 X call lf i0 c0⟩
theorem f9007_X0 (a0:List Lett) (x0:List Lexm) (X:Ext) (call:Caller) (lf:Nat) (i0:Nat) (x23_0_0:ByteArray) (x23_0_1:ByteArray) (x23_0_2:ByteArray) (x23_0_3:ByteArray) (m23_0_4:Nat) (c23_0_4:List AV) (r23:List AV) (x31_0_0:ByteArray) (x31_0_1:ByteArray) (x31_0_2:ByteArray) (x31_0_3:ByteArray) (m31_0_4:Nat) (c31_0_4:List AV) (r31:List AV) (n34:Int) (b0:Bool)
  (g0:decide ((↑i0:Int) < (↑(List.length x0):Int))=true→keep [] (indexAddrv Tryz.prog 23 [] (lro (List.length x0) 5 (List.flatMap lexC x0)) (i6 (↑i0:Int)))=some (AV.eaddr (st x23_0_0::st x23_0_1::st x23_0_2::st x23_0_3::lro m23_0_4 2 c23_0_4::r23),[]))
  (g1:decide ((↑i0:Int) < (↑(List.length x0):Int))=true→callv X call false 19 [lro (List.length a0) 2 (List.flatMap lettC a0),AV.agg [st x23_0_0,st x23_0_1,st x23_0_2,st x23_0_3,lro m23_0_4 2 c23_0_4]] [] 0=some (bo b0,[]))
  (g2:decide ((↑i0:Int) < (↑(List.length x0):Int))=true→b0=true→keep [] (indexAddrv Tryz.prog 23 [] (lro (List.length x0) 5 (List.flatMap lexC x0)) (i6 (↑i0:Int)))=some (AV.eaddr (st x31_0_0::st x31_0_1::st x31_0_2::st x31_0_3::lro m31_0_4 2 c31_0_4::r31),[]))
  (g3 : decide ((↑i0 : Int) < (↑(List.length x0) : Int)) = true → b0 = true → callv X call false 20 [lro (List.length x0) 5 (List.flatMap lexC x0), st x31_0_0] [] 0 = some (i6 n34, [])) :
    (f9007_o0 x0 i0 n34 b0=1→vexec Tryz.prog X call lf 0 fg9007 (loopN Tryz.f7 0) (f9007_F0 a0 x0 i0)=some (Ex.ret,(f9007_S1 a0 x0 i0)))∧(f9007_o0 x0 i0 n34 b0=2→vexec Tryz.prog X call lf 0 fg9007 (loopN Tryz.f7 0) (f9007_F0 a0 x0 i0)=some (Ex.exit 0,(f9007_S2 a0 x0 i0))):=by
  unfold f9007_o0
  cases c0:decide ((↑i0:Int) < (↑(List.length x0):Int)) with
  | true =>
    cases c1:b0 with
    | true =>
      cases c2:(n34 != (↑i0:Int)) with
      | true =>
        exact ⟨fun _=>f9007_r0_ttt a0 x0 X call lf i0 x23_0_0 x23_0_1 x23_0_2 x23_0_3 m23_0_4 c23_0_4 r23 x31_0_0 x31_0_1 x31_0_2 x31_0_3 m31_0_4 c31_0_4 r31 n34 c0 (g0 c0) (by have:=(g1 c0); rw [c1] at this; exact this) (g2 c0 c1) (g3 c0 c1) c2,fun h=>nq h⟩
      | false =>
        exact ⟨fun h=>nq h,fun h=>nq h⟩
    | false =>
      exact ⟨fun _=>f9007_r0_tf a0 x0 X call lf i0 x23_0_0 x23_0_1 x23_0_2 x23_0_3 m23_0_4 c23_0_4 r23 c0 (g0 c0) (by have:=(g1 c0); rw [c1] at this; exact this),fun h=>nq h⟩
  | false =>
    exact ⟨fun h=>nq h,fun _=>f9007_r0_f a0 x0 X call lf i0 c0⟩
theorem f9007_M (a0:List Lett) (x0:List Lexm) (X:Ext) (call:Caller) (lf:Nat) (n:Nat) (x23_0_0:Nat→ByteArray) (x23_0_1:Nat→ByteArray) (x23_0_2:Nat→ByteArray) (x23_0_3:Nat→ByteArray) (m23_0_4:Nat→Nat) (c23_0_4:Nat→List AV) (r23:Nat→List AV) (x31_0_0:Nat→ByteArray) (x31_0_1:Nat→ByteArray) (x31_0_2:Nat→ByteArray) (x31_0_3:Nat→ByteArray) (m31_0_4:Nat→Nat) (c31_0_4:Nat→List AV) (r31:Nat→List AV) (n34:Nat→Int) (b0:Nat→Bool)
  (hn:n < lf)
  (g0:∀ i0,i0 ≤ n→decide ((↑i0:Int) < (↑(List.length x0):Int))=true→keep [] (indexAddrv Tryz.prog 23 [] (lro (List.length x0) 5 (List.flatMap lexC x0)) (i6 (↑i0:Int)))=some (AV.eaddr (st (x23_0_0 i0)::st (x23_0_1 i0)::st (x23_0_2 i0)::st (x23_0_3 i0)::lro (m23_0_4 i0) 2 (c23_0_4 i0)::(r23 i0)),[]))
  (g1:∀ i0,i0 ≤ n→decide ((↑i0:Int) < (↑(List.length x0):Int))=true→callv X call false 19 [lro (List.length a0) 2 (List.flatMap lettC a0),AV.agg [st (x23_0_0 i0),st (x23_0_1 i0),st (x23_0_2 i0),st (x23_0_3 i0),lro (m23_0_4 i0) 2 (c23_0_4 i0)]] [] 0=some (bo (b0 i0),[]))
  (g2:∀ i0,i0 ≤ n→decide ((↑i0:Int) < (↑(List.length x0):Int))=true→(b0 i0)=true→keep [] (indexAddrv Tryz.prog 23 [] (lro (List.length x0) 5 (List.flatMap lexC x0)) (i6 (↑i0:Int)))=some (AV.eaddr (st (x31_0_0 i0)::st (x31_0_1 i0)::st (x31_0_2 i0)::st (x31_0_3 i0)::lro (m31_0_4 i0) 2 (c31_0_4 i0)::(r31 i0)),[]))
  (g3:∀ i0,i0 ≤ n→decide ((↑i0:Int) < (↑(List.length x0):Int))=true→(b0 i0)=true→callv X call false 20 [lro (List.length x0) 5 (List.flatMap lexC x0),st (x31_0_0 i0)] [] 0=some (i6 (n34 i0),[]))
  (e0:∀ i0,i0 < n→decide ((↑i0:Int) < (↑(List.length x0):Int))=true→(↑(i0 + 1):Int)=w6 ((↑i0:Int) + 1))
  (hz : ∀ j, j < n → f9007_o0 x0 j (n34 j) (b0 j) = 0) :
    (f9007_o0 x0 n (n34 n) (b0 n)=1→callv X call false 18 [lro (List.length a0) 2 (List.flatMap lettC a0)] [] 0=some (bo true,[])→decide ((↑(List.length x0):Int) > 256)=false→vbody Tryz.prog X call lf fg9007 Tryz.f7 (codeOf Tryz.f7) [lettsV a0,lexsV x0] [] 0=some (bo false,[]))∧(f9007_o0 x0 n (n34 n) (b0 n)=1→callv X call false 18 [lro (List.length a0) 2 (List.flatMap lettC a0)] [] 0=some (bo true,[])→decide ((↑(List.length x0):Int) > 256)=false→vbody Tryz.prog X call lf fg9007 Tryz.f7 (codeOf Tryz.f7) [lettsV a0,lexsV x0] [] 0=some (bo false,[]))∧(f9007_o0 x0 n (n34 n) (b0 n)=2→callv X call false 18 [lro (List.length a0) 2 (List.flatMap lettC a0)] [] 0=some (bo true,[])→decide ((↑(List.length x0):Int) > 256)=false→vbody Tryz.prog X call lf fg9007 Tryz.f7 (codeOf Tryz.f7) [lettsV a0,lexsV x0] [] 0=some (bo true,[])):=by
  have key:∀ j,j < n→_:=fun j hj=>(f9007_B0 a0 x0 X call lf j (x23_0_0 j) (x23_0_1 j) (x23_0_2 j) (x23_0_3 j) (m23_0_4 j) (c23_0_4 j) (r23 j) (x31_0_0 j) (x31_0_1 j) (x31_0_2 j) (x31_0_3 j) (m31_0_4 j) (c31_0_4 j) (r31 j) (n34 j) (b0 j) (g0 j (Nat.le_of_lt hj)) (g1 j (Nat.le_of_lt hj)) (g2 j (Nat.le_of_lt hj)) (g3 j (Nat.le_of_lt hj)) (e0 j hj)).1 (hz j hj)
  have kn:=f9007_X0 a0 x0 X call lf n (x23_0_0 n) (x23_0_1 n) (x23_0_2 n) (x23_0_3 n) (m23_0_4 n) (c23_0_4 n) (r23 n) (x31_0_0 n) (x31_0_1 n) (x31_0_2 n) (x31_0_3 n) (m31_0_4 n) (c31_0_4 n) (r31 n) (n34 n) (b0 n) (g0 n (Nat.le_refl n)) (g1 n (Nat.le_refl n)) (g2 n (Nat.le_refl n)) (g3 n (Nat.le_refl n))
  exact ⟨fun hk q0 q1 => f9007_ptflttt a0 x0 X call lf n q0 q1 (f9007_L0 a0 x0 X call lf n _ _ hn key (kn.1 hk) (by simp)),
    fun hk q0 q1=>f9007_ptfltf a0 x0 X call lf n q0 q1 (f9007_L0 a0 x0 X call lf n _ _ hn key (kn.1 hk) (by simp)),
    fun hk q0 q1=>f9007_ptflf a0 x0 X call lf n q0 q1 (f9007_L0 a0 x0 X call lf n _ _ hn key (kn.2 hk) (by simp))⟩
def fg9003:Nat→List Nat
  | 1=>[5,6,7,8,9,10,11,12,13,14,15]
  | _=>[]
def f9003_S0 (a0:List Lett) (x0:List Lexm):St :=
  stOf 25 [] [(0,lro (List.length a0) 2 (List.flatMap lettC a0)),(1,lro (List.length x0) 5 (List.flatMap lexC x0)),(4,bo false)] []
def f9003_S1 (a0:List Lett) (x0:List Lexm):St :=
  stOf 25 [5,6,7,8,9,10,11,12,13,14,15] [(0,lro (List.length a0) 2 (List.flatMap lettC a0)),(1,lro (List.length x0) 5 (List.flatMap lexC x0)),(4,bo false),(16,bo true)] []
theorem f9003_g1_ttt (a0:List Lett) (x0:List Lexm) (X:Ext) (call:Caller) (lf:Nat)
  (h0:callv X call false 4 [] [] 0=some (bo true,[]))
  (h1:callv X call false 5 [lro (List.length x0) 5 (List.flatMap lexC x0)] [] 0=some (bo true,[]))
  (h2:decide ((↑(List.length a0):Int) > 70)=true):vexec Tryz.prog X call lf 0 fg9003 (regN Tryz.f3 1) (f9003_S0 a0 x0)=some (Ex.normal,(f9003_S1 a0 x0)) :=
  around_sound (ans:=[(1,Ans.v (bo true)),(7,Ans.v (bo true)),(17,Ans.b true)]) (by kernel_rfl) (ai h0 (ai h1 (ai h2 trivial)))
theorem f9003_g1_ttf (a0:List Lett) (x0:List Lexm) (X:Ext) (call:Caller) (lf:Nat)
  (h0:callv X call false 4 [] [] 0=some (bo true,[]))
  (h1:callv X call false 5 [lro (List.length x0) 5 (List.flatMap lexC x0)] [] 0=some (bo true,[]))
  (h2:decide ((↑(List.length a0):Int) > 70)=false):vexec Tryz.prog X call lf 0 fg9003 (regN Tryz.f3 1) (f9003_S0 a0 x0)=some (Ex.normal,stOf 25 [5,6,7,8,9,10,11,12,13,14,15] [(0,lro (List.length a0) 2 (List.flatMap lettC a0)),(1,lro (List.length x0) 5 (List.flatMap lexC x0)),(4,bo false),(16,bo false)] []) :=
  around_sound (ans:=[(1,Ans.v (bo true)),(7,Ans.v (bo true)),(17,Ans.b false)]) (by kernel_rfl) (ai h0 (ai h1 (ai h2 trivial)))
theorem f9003_g1_tf (a0:List Lett) (x0:List Lexm) (X:Ext) (call:Caller) (lf:Nat)
  (h0:callv X call false 4 [] [] 0=some (bo true,[]))
  (h1:callv X call false 5 [lro (List.length x0) 5 (List.flatMap lexC x0)] [] 0=some (bo false,[])):vexec Tryz.prog X call lf 0 fg9003 (regN Tryz.f3 1) (f9003_S0 a0 x0)=some (Ex.normal,(f9003_S1 a0 x0)) :=
  around_sound (ans:=[(1,Ans.v (bo true)),(7,Ans.v (bo false))]) (by kernel_rfl) (ai h0 (ai h1 trivial))
def f9003_S2 (a0:List Lett) (x0:List Lexm) (b16:Bool):St :=
  stOf 25 [5,6,7,8,9,10,11,12,13,14,15] [(0,lro (List.length a0) 2 (List.flatMap lettC a0)),(1,lro (List.length x0) 5 (List.flatMap lexC x0)),(4,bo false),(16,bo b16)] []
theorem f9003_ptt (a0:List Lett) (x0:List Lexm) (b16:Bool) (X:Ext) (call:Caller) (lf:Nat)
  (h0:vexec Tryz.prog X call lf 0 fg9003 (regN Tryz.f3 1) (f9003_S0 a0 x0)=some (Ex.normal,(f9003_S2 a0 x0 b16)))
  (h1:b16=true)
  (h2:callv X call false 4 [] [] 0=some (bo true,[])):vbody Tryz.prog X call lf fg9003 Tryz.f3 (codeOf Tryz.f3) [lettsV a0,lexsV x0] [] 0=some (bo true,[]) :=
  along_sound (ans:=[(2,Ans.l Ex.normal (f9003_S2 a0 x0 b16)),(3,Ans.b true),(5,Ans.v (bo true))]) (by kernel_rfl) (ai h0 (ai h1 (ai h2 trivial)))
theorem f9003_pftt (a0:List Lett) (x0:List Lexm) (b16:Bool) (X:Ext) (call:Caller) (lf:Nat)
  (h0:vexec Tryz.prog X call lf 0 fg9003 (regN Tryz.f3 1) (f9003_S0 a0 x0)=some (Ex.normal,(f9003_S2 a0 x0 b16)))
  (h1:b16=false)
  (h2:callv X call false 6 [lro (List.length a0) 2 (List.flatMap lettC a0),lro (List.length x0) 5 (List.flatMap lexC x0)] [] 0=some (bo true,[]))
  (h3:callv X call false 7 [lro (List.length a0) 2 (List.flatMap lettC a0),lro (List.length x0) 5 (List.flatMap lexC x0)] [] 0=some (bo true,[])):vbody Tryz.prog X call lf fg9003 Tryz.f3 (codeOf Tryz.f3) [lettsV a0,lexsV x0] [] 0=some (bo true,[]) :=
  along_sound (ans:=[(2,Ans.l Ex.normal (f9003_S2 a0 x0 b16)),(3,Ans.b false),(7,Ans.v (bo true)),(10,Ans.v (bo true))]) (by kernel_rfl) (ai h0 (ai h1 (ai h2 (ai h3 trivial))))
theorem f9003_pfff (a0:List Lett) (x0:List Lexm) (b16:Bool) (X:Ext) (call:Caller) (lf:Nat)
  (h0:vexec Tryz.prog X call lf 0 fg9003 (regN Tryz.f3 1) (f9003_S0 a0 x0)=some (Ex.normal,(f9003_S2 a0 x0 b16)))
  (h1:b16=false)
  (h2:callv X call false 6 [lro (List.length a0) 2 (List.flatMap lettC a0),lro (List.length x0) 5 (List.flatMap lexC x0)] [] 0=some (bo false,[]))
  (h3:callv X call false 7 [lro (List.length a0) 2 (List.flatMap lettC a0),lro (List.length x0) 5 (List.flatMap lexC x0)] [] 0=some (bo false,[])):vbody Tryz.prog X call lf fg9003 Tryz.f3 (codeOf Tryz.f3) [lettsV a0,lexsV x0] [] 0=some (bo true,[]) :=
  along_sound (ans:=[(2,Ans.l Ex.normal (f9003_S2 a0 x0 b16)),(3,Ans.b false),(7,Ans.v (bo false)),(10,Ans.v (bo false))]) (by kernel_rfl) (ai h0 (ai h1 (ai h2 (ai h3 trivial))))
end Go.Proofs.Lex
end
/- Lexicon: the law of merged lexicons. -/
section
open Go Go.Vm Go.Proofs
namespace Go.Proofs.Lex
theorem seen_iff {L:List Lexm} {i:Nat} (hi:i ≤ L.length) (x:ByteArray):((idsV L i).any fun y=>decide (y=x))=true ↔ ∃ j,j < i∧(nL L j).id=x:=by
  unfold idsV
  rw [List.any_eq_true]
  constructor
  · rintro ⟨y, hy, e⟩
    obtain ⟨z,hz,rfl⟩:=List.mem_map.1 hy
    obtain ⟨j,hj,rfl⟩:=List.mem_take_iff_getElem.1 hz
    exact ⟨j,by omega,by rw [nL,getD_lt (show j < L.length by omega)]; exact of_decide_eq_true e⟩
  · rintro ⟨j, hj, e⟩
    refine ⟨_,List.mem_map.2 ⟨nL L j,?_,rfl⟩,decide_eq_true e⟩
    rw [nL,getD_lt (show j < L.length by omega)]
    exact List.mem_take_iff_getElem.2 ⟨j,by omega,rfl⟩
section
variable [Fixed] {X:Ext}
variable (hX:ExtOk Tryz.prog X) (hM:XV X) (h14:CallAt Tryz.prog 4 [] [] 0 (bo true) [])
include hX hM h14
end
end Go.Proofs.Lex
end
/- Lexicon: the reference's alphabets. -/
section
open Go Go.Vm Go.Proofs
namespace Go.Proofs.Lex
def goodR (n:Int):Bool:=(decide (n > 32) && decide (n ≤ 1114111)) && (decide (n < 55296) || decide (n > 57343))
theorem goodR_eq (x:Lett):goodL x=goodR x.r:=by
  unfold goodL goodR validR
  by_cases h1:x.r ≤ 32
  · rw [decide_eq_true h1,decide_eq_false (show ¬ x.r > 32 by omega)]; rfl
  · rw [decide_eq_false h1, decide_eq_true (show x.r > 32 by omega), decide_eq_true (show 0 ≤ x.r by omega)]
    by_cases h2:x.r < 55296
    · rw [decide_eq_true h2,decide_eq_true (show x.r ≤ 1114111 by omega)]; rfl
    · rw [decide_eq_false h2]
      cases decide (57343 < x.r) <;> cases decide (x.r ≤ 1114111) <;> rfl
/-- The first letter with a rune, or -1. -/
def idxT (a:List Lett) (n:Int):Int:=match a.findIdx? (fun x=>x.r == n) with
  | some i=>i
  | none => -1
theorem idxT_none {a:List Lett} {n:Int} (h:∀ i,i < a.length → ¬ (nT a i).r=n):idxT a n = -1:=by
  unfold idxT
  rw [List.findIdx?_eq_none_iff.2 fun x hx => by
    obtain ⟨i,hi,rfl⟩:=List.getElem_of_mem hx
    have:=h i hi
    rw [nT,getD_lt hi] at this
    simpa using this]
theorem idxT_some {a:List Lett} {n:Int} {k:Nat} (hk:k < a.length) (hp:(nT a k).r=n) (h:∀ i,i < k → ¬ (nT a i).r=n):idxT a n=(k:Int):=by
  unfold idxT
  rw [List.findIdx?_eq_some_iff_getElem.2 ⟨hk, by rw [nT, getD_lt hk] at hp; simpa using hp, fun j hj => by
    have:=h j hj
    rw [nT,getD_lt (show j < a.length by omega)] at this
    simpa using this⟩]
theorem idxT_cases (a:List Lett) (n:Int):(idxT a n = -1∧∀ i,i < a.length → ¬ (nT a i).r=n) ∨ ∃ k,k < a.length∧idxT a n=(k:Int)∧(nT a k).r=n∧∀ i,i < k → ¬ (nT a i).r=n:=by
  rcases first_fail (p:=fun i => ¬ (nT a i).r=n) a.length with hall | ⟨k,hk,hbad,hbef⟩
  · exact .inl ⟨idxT_none hall,hall⟩
  · have hp : (nT a k).r = n := Classical.not_not.1 hbad
    exact .inr ⟨k,hk,idxT_some hk hp hbef,hp,hbef⟩
theorem idxR_succ (a:List Lett) (i:Nat):idxR a (i + 1)=if ((idxR a i).any fun e=>e.1 == (nT a i).r)=true then idxR a i else idxR a i ++ [((nT a i).r,i)]:=rfl
theorem idxR_any (a:List Lett) (n:Int):∀ i,((idxR a i).any fun e=>e.1 == n)=true ↔ ∃ j,j < i∧(nT a j).r=n
  | 0=>by simp [idxR]
  | i + 1 => by
    have ih:=idxR_any a n i
    unfold idxR
    split
    · rename_i h
      rw [ih]
      constructor
      · rintro ⟨j,hj,e⟩; exact ⟨j,by omega,e⟩
      · rintro ⟨j, hj, e⟩
        by_cases hji:j=i
        · subst hji
          rw [e] at h
          exact ih.1 h
        · exact ⟨j,by omega,e⟩
    · rw [List.any_append, Bool.or_eq_true, ih]
      simp only [List.any_cons,List.any_nil,Bool.or_false,beq_iff_eq]
      constructor
      · rintro (⟨j, hj, e⟩ | e)
        · exact ⟨j,by omega,e⟩
        · exact ⟨i,by omega,e⟩
      · rintro ⟨j, hj, e⟩
        by_cases hji:j=i
        · subst hji; exact .inr e
        · exact .inl ⟨j,by omega,e⟩
theorem idxR_le (a:List Lett):∀ i,(idxR a i).length ≤ i
  | 0=>Nat.le_refl _
  | i + 1 => by
    have:=idxR_le a i
    unfold idxR
    split
    · omega
    · rw [List.length_append,List.length_singleton]; omega
theorem idxR_full (a:List Lett):∀ i,(idxR a i).length=i ↔ ∀ j,j < i→((idxR a j).any fun e=>e.1 == (nT a j).r)=false
  | 0=>by simp [idxR]
  | i + 1 => by
    have ih:=idxR_full a i
    have hle:=idxR_le a i
    rw [idxR_succ]
    split
    · rename_i h
      constructor
      · intro e; omega
      · intro hall
        have:=hall i (by omega)
        rw [h] at this
        cases this
    · rename_i h
      rw [List.length_append,List.length_singleton]
      constructor
      · intro e j hj
        by_cases hji:j=i
        · subst hji; exact Bool.eq_false_iff.2 h
        · exact ih.1 (by omega) j (by omega)
      · intro hall
        rw [ih.2 fun j hj=>hall j (by omega)]
theorem hasR_idx (a:List Lett) (n:Int):hasR a n = !decide (idxT a n < 0):=by
  unfold hasR
  rcases idxT_cases a n with ⟨e,hall⟩ | ⟨k,hk,e,hp,_⟩
  · rw [e, decide_eq_true (by decide), Bool.not_true, Bool.eq_false_iff]
    intro h
    obtain ⟨j,hj,ej⟩:=(idxR_any a n a.length).1 h
    exact hall j hj ej
  · rw [e, decide_eq_false (by omega), Bool.not_false]
    exact (idxR_any a n a.length).2 ⟨k,hk,hp⟩
/-- The reference's alphabets. -/
def alphaR (a:List Lett):Bool:=decide (1 ≤ a.length) && (decide (a.length ≤ 64) && (List.range a.length).all fun i=>goodR (nT a i).r && decide (idxT a (nT a i).r=(i:Int)))
theorem alpha_eq (a:List Lett):alphaR a=alphaF a:=by
  unfold alphaR alphaF
  congr 2
  rw [Bool.eq_iff_iff,Bool.and_eq_true,List.all_eq_true,decide_eq_true_eq,idxR_full]
  have hfirst : ∀ i, i < a.length → (idxT a (nT a i).r = (i : Int) ↔ ((idxR a i).any fun e => e.1 == (nT a i).r) = false) := fun i hi => by
    rw [Bool.eq_false_iff,Ne,idxR_any]
    rcases idxT_cases a (nT a i).r with ⟨e,hall⟩ | ⟨k,hk,e,hp,hb⟩
    · exact absurd rfl (hall i hi)
    · rw [e]
      constructor
      · intro ek
        have:k=i:=by omega
        subst this
        rintro ⟨j,hj,ej⟩
        exact hb j hj ej
      · intro hn
        have : ¬ i < k:=fun h=>hb i h rfl
        have : ¬ k < i:=fun h=>hn ⟨k,h,hp⟩
        omega
  constructor
  · intro h
    refine ⟨all_nth (d:=d0T) |>.2 fun i hi => ?_,fun i hi => ?_⟩
    · have := h i (List.mem_range.2 hi)
      rw [Bool.and_eq_true] at this
      rw [goodR_eq]
      exact this.1
    · have := h i (List.mem_range.2 hi)
      rw [Bool.and_eq_true,decide_eq_true_eq] at this
      exact (hfirst i hi).1 this.2
  · rintro ⟨h1, h2⟩ i hi
    have hi' := List.mem_range.1 hi
    rw [Bool.and_eq_true,decide_eq_true_eq]
    have:=(all_nth (d:=d0T)).1 h1 i hi'
    rw [goodR_eq] at this
    exact ⟨this,(hfirst i hi').2 (h2 i hi')⟩
section
variable [Fixed] {X:Ext}
theorem callGood (hX:ExtOk Tryz.prog X) (hL:XL X) (n:Int):CallAt Tryz.prog 39 [aR.enc n] [] 0 (aB.enc (goodR n)) []:=by
  have hC:=callerOf_ok (SpecOk.none' (P:=Tryz.prog))
  have M:=f90039_P0 n X (callerOf fun _ _=>none) 0
  have hq : f90039_q0 n = if goodR n then 0 else 1 := by
    unfold f90039_q0 goodR
    cases decide (n > 32) <;> cases decide (n ≤ 1114111) <;> cases decide (n < 55296) <;> cases decide (n > 57343) <;> rfl
  cases h:goodR n with
  | true=>exact run_res (B:=aB) hX hC (hL.dom 39 rfl rfl) Tryz.func39 (by kernel_rfl) (M.1 (by rw [hq,h]; rfl)) rfl
  | false=>exact run_res (B:=aB) hX hC (hL.dom 39 rfl rfl) Tryz.func39 (by kernel_rfl) (M.2 (by rw [hq,h]; rfl)) rfl
theorem callIdx (hX:ExtOk Tryz.prog X) (hL:XL X) {a:List Lett} {n:Int} (hl:a.length ≤ big):CallAt Tryz.prog 40 [aTs.enc a,aR.enc n] [] 0 (aI.enc (idxT a n)) []:=by
  have hC:=callerOf_ok (SpecOk.none' (P:=Tryz.prog))
  have hb:Tryz.f40.body=some (codeOf Tryz.f40):=by kernel_rfl
  have lt:∀ {i:Nat},decide ((i:Int) < (a.length:Int))=true→i < a.length:=fun h=>by have:=of_decide_eq_true h; omega
  have M:=fun k hk hz=>f90040_M a n X (callerOf fun _ _=>none) (a.length + 1) k (fun i=>(nT a i).r) (fun i=>(nT a i).c) (fun i=>tT a i) hk (fun i _ h=>at_lett (lt h)) (fun i _ h=>up (lt h) hl) hz
  have hz : ∀ j, j < a.length → ¬ (nT a j).r = n → f90040_o0 a n j (nT a j).r = 0 := fun j hj hg => by
    unfold f90040_o0
    rw [decide_eq_true (by omega),beq_eq_false_iff_ne.2 hg]
  rcases idxT_cases a n with ⟨e,hall⟩ | ⟨k,hk,e,hp,hbef⟩
  · rw [e]
    exact run_res (B:=aI) hX hC (hL.dom 40 rfl rfl) Tryz.func40 hb ((M a.length (Nat.lt_succ_self _) fun j hj=>hz j hj (hall j hj)).2 (by unfold f90040_o0; rw [decide_eq_false (by omega)])) rfl
  · rw [e]
    exact run_res (B:=aI) hX hC (hL.dom 40 rfl rfl) Tryz.func40 hb ((M k (by omega) fun j hj=>hz j (by omega) (hbef j hj)).1 (by unfold f90040_o0; rw [decide_eq_true (by omega),hp,beq_self_eq_true])) (aI.de _)
def W18:Go.Vm.Spec:=(Go.Vm.Spec.on (fun _ _=>none) 39 (s1 aR aB goodR fun _=>True)).on 40 (sp2 aTs aR fun a n=>if a.length ≤ big then some (aI.enc (idxT a n)) else none)
theorem W18_ok (hX:ExtOk Tryz.prog X) (hL:XL X):SpecOk Tryz.prog W18:=by
  refine SpecOk.on2 (SpecOk.s1 SpecOk.none' fun n _=>callGood hX hL n) fun a n r h => ?_
  exact on_cond (α:=Nat) (β:=Nat) (Q:=fun r=>CallAt Tryz.prog 40 [aTs.enc a,aR.enc n] [] 0 r []) h fun e=>callIdx hX hL e
theorem w39 (hL:XL X) (n:Int) (σ:List Ob):callv X (callerOf W18) false 39 [i3 n] σ 0=some (bo (goodR n),σ):=by
  obtain ⟨a1,a2,a3⟩:=hL.ok 39 rfl
  exact call_on (B:=aB) (T:=W18) (y:=goodR n) (vs:=[aR.enc n]) a1 a2 a3 rfl (s1_at (A:=aR) (B:=aB) (g:=goodR) (ok:=fun _=>True) trivial)
theorem w40 (hL:XL X) {a:List Lett} (n:Int) (hl:a.length ≤ big) (σ:List Ob):callv X (callerOf W18) false 40 [lettsV a,i3 n] σ 0=some (i6 (idxT a n),σ) :=
  on_two (A:=aTs) (B:=aR) (D:=aI) (T:=W18) (z:=idxT a n) hL rfl rfl (if_pos hl) _ _
/-- ref01.Valid. -/
theorem callAlpha (hX:ExtOk Tryz.prog X) (hL:XL X) {a:List Lett} (hl:a.length ≤ big):CallAt Tryz.prog 18 [aTs.enc a] [] 0 (aB.enc (alphaR a)) []:=by
  have hC:=callerOf_ok (W18_ok hX hL)
  have hb:Tryz.f18.body=some (codeOf Tryz.f18):=by kernel_rfl
  by_cases h1:(a.length:Int) < 1
  · have : alphaR a = false := by
      unfold alphaR
      rw [decide_eq_false (by omega)]
      rfl
    rw [this]
    exact run_res (B:=aB) hX hC (hL.dom 18 rfl rfl) Tryz.func18 hb (f90018_pt a X _ (a.length + 1) (decide_eq_true h1)) rfl
  by_cases h2:(a.length:Int) > 64
  · have : alphaR a = false := by
      unfold alphaR
      rw [decide_eq_true (show 1 ≤ a.length by omega),decide_eq_false (by omega)]
      rfl
    rw [this]
    exact run_res (B:=aB) hX hC (hL.dom 18 rfl rfl) Tryz.func18 hb (f90018_pft a X _ (a.length + 1) (decide_eq_false h1) (decide_eq_true h2)) rfl
  have hbase : alphaR a = (List.range a.length).all fun i => goodR (nT a i).r && decide (idxT a (nT a i).r = (i : Int)) := by
    unfold alphaR
    rw [decide_eq_true (show 1 ≤ a.length by omega),decide_eq_true (show a.length ≤ 64 by omega)]
    rfl
  have lt:∀ {i:Nat},decide ((i:Int) < (a.length:Int))=true→i < a.length:=fun h=>by have:=of_decide_eq_true h; omega
  have M := fun n hn hz => f90018_M a X (callerOf W18) (a.length + 1) n (fun i => (nT a i).r) (fun i => (nT a i).c) (fun i => tT a i) (fun i => (nT a i).r) (fun i => (nT a i).c) (fun i => tT a i) (fun i => idxT a (nT a i).r) (fun i => goodR (nT a i).r) hn
    (fun i _ h=>at_lett (lt h)) (fun i _ _=>w39 hL _ _) (fun i _ h _=>at_lett (lt h)) (fun i _ _ _=>w40 hL _ hl _) (fun i _ h=>up (lt h) hl) hz
  have ho : ∀ j, j < a.length → f90018_o0 a j (idxT a (nT a j).r) (goodR (nT a j).r) = if (goodR (nT a j).r && decide (idxT a (nT a j).r = (j : Int))) then 0 else 1 := fun j hj => by
    unfold f90018_o0
    rw [decide_eq_true (by omega)]
    by_cases e:idxT a (nT a j).r=(j:Int)
    · rw [decide_eq_true e, show (idxT a (nT a j).r != (j : Int)) = false from by rw [e]; simp]
      cases goodR (nT a j).r <;> rfl
    · rw [decide_eq_false e, show (idxT a (nT a j).r != (j : Int)) = true from by simpa using e]
      cases goodR (nT a j).r <;> rfl
  rcases first_fail (p:=fun j=>(goodR (nT a j).r && decide (idxT a (nT a j).r=(j:Int)))=true) a.length with hall | ⟨k,hk,hbad,hbef⟩
  · have hv : alphaR a = true := by rw [hbase, List.all_eq_true]; exact fun j hj => hall j (List.mem_range.1 hj)
    rw [hv]
    have m:=M a.length (Nat.lt_succ_self _) fun j hj=>by rw [ho j hj,if_pos (hall j hj)]
    exact run_res (B:=aB) hX hC (hL.dom 18 rfl rfl) Tryz.func18 hb (m.2.2 (by unfold f90018_o0; rw [decide_eq_false (by omega)]) (decide_eq_false h1) (decide_eq_false h2)) rfl
  · have hv : alphaR a = false := by
      rw [hbase,Bool.eq_false_iff]
      intro hc
      exact hbad (List.all_eq_true.1 hc k (List.mem_range.2 hk))
    rw [hv]
    have m:=M k (by omega) fun j hj=>by rw [ho j (by omega),if_pos (hbef j hj)]
    exact run_res (B:=aB) hX hC (hL.dom 18 rfl rfl) Tryz.func18 hb (m.1 (by rw [ho k hk,if_neg hbad]) (decide_eq_false h1) (decide_eq_false h2)) rfl
end
end Go.Proofs.Lex
end
/- Lexicon: the reference's words. -/
section
open Go Go.Vm Go.Proofs
namespace Go.Proofs.Lex
def fffd:ByteArray:=⟨#[239,191,189]⟩
/-- Where a string's bytes are no letter. -/
def badK (s:ByteArray) (k:Nat):Prop:=(Utf8.decode s (posR s k)).1=65533∧(Utf8.decode s (posR s k)).2=1
instance (s:ByteArray) (k:Nat):Decidable (badK s k):=inferInstanceAs (Decidable (_∧_))
theorem valid_end {s : ByteArray} : ∀ {k : Nat}, ¬ posR s k < s.size → Lib.validD (s.data.toList.drop (posR s k)) = true := fun {k} h => by
  rw [List.drop_eq_nil_of_le (by rw [← size_list]; omega)]
  exact Lib.validD_nil
theorem valid_next {s:ByteArray} {k:Nat} (h:posR s k < s.size):Lib.validD (s.data.toList.drop (posR s k))=if badK s k then false else Lib.validD (s.data.toList.drop (posR s (k + 1))):=by
  have hne : s.data.toList.drop (posR s k) ≠ [] := by
    intro e
    have:=congrArg List.length e
    rw [List.length_drop,← size_list] at this
    simp at this
    omega
  rw [Lib.validD_step _ hne,Lib.decodeL_drop,List.drop_drop]
  rfl
theorem valid_run {s:ByteArray}:∀ (k:Nat),(∀ j,j < k→posR s j < s.size ∧ ¬ badK s j)→Lib.validD s.data.toList=Lib.validD (s.data.toList.drop (posR s k))
  | 0,_=>rfl
  | k + 1, h => by
    rw [valid_run k fun j hj=>h j (by omega),valid_next (h k (by omega)).1,if_neg (h k (by omega)).2]
theorem dec_cases (n b0 b1 b2 b3:Nat) (h:(Lib.decodeN n b0 b1 b2 b3).1=65533) (h0:b0 < 256) (h1:b1 < 256) (h2:b2 < 256):(Lib.decodeN n b0 b1 b2 b3).2=1 ∨ (2 < n∧b0=239∧b1=191∧b2=189):=by
  unfold Lib.decodeN at h ⊢
  split at h
  · simp only at h; omega
  · split at h
    · split at h
      · simp only at h; omega
      · rename_i c1 c2 c3; rw [if_neg c1,if_pos c2,if_neg c3]; exact .inl rfl
    · split at h
      · split at h
        · simp only at h
          refine .inr ⟨?_,?_,?_,?_⟩ <;> omega
        · rename_i c1 c2 c3 c4; rw [if_neg c1,if_neg c2,if_pos c3,if_neg c4]; exact .inl rfl
      · split at h
        · split at h
          · simp only at h; omega
          · rename_i c1 c2 c3 c4 c5; rw [if_neg c1,if_neg c2,if_neg c3,if_pos c4,if_neg c5]; exact .inl rfl
        · rename_i c1 c2 c3 c4; rw [if_neg c1,if_neg c2,if_neg c3,if_neg c4]; exact .inl rfl
theorem dec_fffd (n b3:Nat) (h:2 < n):Lib.decodeN n 239 191 189 b3=(65533,3):=by
  unfold Lib.decodeN
  rw [if_neg (by omega),if_neg (by omega),if_pos (by omega),if_pos (by omega)]
theorem extract_three {s:ByteArray} {i:Nat} (h:i + 3 ≤ s.size):(s.extract i (i + 3)=fffd) ↔ ((s.data.toList.getD i 0).toNat=239∧(s.data.toList.getD (i + 1) 0).toNat=191∧(s.data.toList.getD (i + 2) 0).toNat=189):=by
  have hs:=size_list s
  have e : s.extract i (i + 3) = mkB [s.data.toList.getD i 0, s.data.toList.getD (i + 1) 0, s.data.toList.getD (i + 2) 0] := by
    rw [ex_mk]
    congr 1
    rw [List.drop_take,show i + 3 - i=3 by omega]
    rw [List.drop_eq_getElem_cons (show i < s.data.toList.length by omega),List.drop_eq_getElem_cons (show i + 1 < s.data.toList.length by omega),List.drop_eq_getElem_cons (show i + 1 + 1 < s.data.toList.length by omega)]
    simp only [List.take_succ_cons,List.take_zero]
    rw [getD_lt (show i < s.data.toList.length by omega),getD_lt (show i + 1 < s.data.toList.length by omega),getD_lt (show i + 2 < s.data.toList.length by omega)]
  rw [e]
  unfold mkB fffd
  constructor
  · intro h
    have h2:=congrArg (fun b:ByteArray=>b.data.toList) h
    simp only [List.cons.injEq,and_true] at h2
    rw [h2.1,h2.2.1,h2.2.2]
    exact ⟨rfl,rfl,rfl⟩
  · rintro ⟨h1, h2, h3⟩
    have a1:s.data.toList.getD i 0=239:=UInt8.toNat_inj.1 h1
    have a2:s.data.toList.getD (i + 1) 0=191:=UInt8.toNat_inj.1 h2
    have a3:s.data.toList.getD (i + 2) 0=189:=UInt8.toNat_inj.1 h3
    rw [a1,a2,a3]
/-- What the reference looks at. -/
theorem bad_iff {s:ByteArray} {k:Nat} (h:posR s k < s.size):badK s k ↔ (Utf8.decode s (posR s k)).1=65533∧(s.size < posR s k + 3 ∨ s.extract (posR s k) (posR s k + 3) ≠ fffd):=by
  unfold badK
  constructor
  · rintro ⟨h1, h2⟩
    refine ⟨h1,?_⟩
    by_cases hl:s.size < posR s k + 3
    · exact .inl hl
    · refine .inr fun e => ?_
      obtain ⟨e0,e1,e2⟩:=(extract_three (by omega)).1 e
      rw [Lib.decode_N,e0,e1,e2,dec_fffd _ _ (by rw [← size_list]; omega)] at h2
      omega
  · rintro ⟨h1, h2⟩
    refine ⟨h1,?_⟩
    rw [Lib.decode_N] at h1 ⊢
    rcases dec_cases _ _ _ _ _ h1 (UInt8.toNat_lt _) (UInt8.toNat_lt _) (UInt8.toNat_lt _) with h | ⟨hn,e0,e1,e2⟩
    · exact h
    · exfalso
      rw [← size_list] at hn
      rcases h2 with h2 | h2
      · omega
      · exact h2 ((extract_three (by omega)).2 ⟨e0,e1,e2⟩)
/-! ### UTF8 -/
def body84 (fn:Func):Code := .block 1 (.seq (rgF fn 3) (.seq (rgF fn 4) (.cond (.tmp 27) (.seq (rgF fn 5) .ret) .skip)))
def code84 (fn:Func):Code := .seq (rgF fn 0) (.seq (.seq (rgF fn 1) (.block 0 (.loop (.seq (rgF fn 2) (.seq (.cond (.tmp 8) .skip (.exit 0)) (body84 fn)))))) (.seq (rgF fn 6) .ret))
theorem is84:Tryz.f84.body=some (code84 Tryz.f84):=by kernel_rfl
def dk84:List Nat:=[3,4,7,8,9,10,11,12,13,14,15,16,17,18,19,20,21,22,23,24,25,26,27]
def A84 (s:ByteArray):St:=stOf 28 [] [(0,st s),(2,bo false)] []
def B84 (s:ByteArray):St:=stOf 28 [] [(0,st s),(2,bo false),(5,st s)] []
def F84 (s:ByteArray) (r:Nat):St:=stOf 28 dk84 [(0,st s),(2,bo false),(5,st s),(6,ptrV r)] []
def G84 (s:ByteArray) (r p:Nat) (z:Int):St:=⟨setN (setN (F84 s r).tmps 7 (.tup [bo true,i6 p,i3 z])) 8 (bo true),(F84 s r).st⟩
section
variable {X:Ext} {call:Caller} {lf:Nat}
theorem r84_0 (s:ByteArray):vexec Tryz.prog X call lf 0 noFg (rgF Tryz.f84 0) (stOf 28 [] [(0,st s)] [])=some (.normal,A84 s):=by show _=_; kernel_rfl
theorem r84_t1 (s:ByteArray) (r p:Nat) (z:Int) (h:(z == 65533)=false) :
    ∃ T,vexec Tryz.prog X call lf 0 noFg (body84 Tryz.f84) (G84 s r p z)=some (.normal,T)∧forget dk84 T=F84 s r :=
  ⟨stOf 28 [] [(0,st s),(5,st s),(6,ptrV r),(2,bo false),(3,i6 p),(4,i3 z),(7,.tup [bo true,i6 p,i3 z]),(8,bo true),(9,i6 p),(10,i3 z),(11,i3 z),(12,bo false),(13,bo false),(27,bo false)] [],around_sound (ans:=[(7,Ans.b false)]) (by kernel_rfl) (And.intro h trivial),by show _=_; kernel_rfl⟩
theorem r84_t2 (s:ByteArray) (r p:Nat) (z:Int) (h:(z == 65533)=true) (h2:decide ((s.size:Int) < w6 ((p:Int) + 3))=true) :
    ∃ T,vexec Tryz.prog X call lf 0 noFg (body84 Tryz.f84) (G84 s r p z)=some (.ret,T)∧nth T.tmps 2=bo false :=
  ⟨stOf 28 [] [(0,st s),(5,st s),(6,ptrV r),(2,bo false),(3,i6 p),(4,i3 z),(7,.tup [bo true,i6 p,i3 z]),(8,bo true),(9,i6 p),(10,i3 z),(11,i3 z),(12,bo true),(13,bo true),(14,st s),(15,i6 s.size),(16,i6 p),(17,i6 (w6 ((p:Int) + 3))),(18,bo true),(19,bo true),(26,bo true),(27,bo true)] [],around_sound (ans:=[(7,Ans.b true),(18,Ans.b true)]) (by kernel_rfl) (And.intro h (And.intro h2 trivial)),by show _=_; kernel_rfl⟩
theorem r84_t3 (s u:ByteArray) (r p:Nat) (z:Int) (h:(z == 65533)=true) (h2:decide ((s.size:Int) < w6 ((p:Int) + 3))=false) (h3:slc Tryz.prog 9 [] false 0 (st s) (some (i6 p)) (some (i6 (w6 ((p:Int) + 3)))) none=some (st u,[])) (h4:(!u.toList == fffd.toList)=true) :
    ∃ T,vexec Tryz.prog X call lf 0 noFg (body84 Tryz.f84) (G84 s r p z)=some (.ret,T)∧nth T.tmps 2=bo false :=
  ⟨stOf 28 [] [(0,st s),(5,st s),(6,ptrV r),(2,bo false),(3,i6 p),(4,i3 z),(7,.tup [bo true,i6 p,i3 z]),(8,bo true),(9,i6 p),(10,i3 z),(11,i3 z),(12,bo true),(13,bo true),(14,st s),(15,i6 s.size),(16,i6 p),(17,i6 (w6 ((p:Int) + 3))),(18,bo false),(19,bo false),(20,st s),(21,i6 p),(22,i6 p),(23,i6 (w6 ((p:Int) + 3))),(24,st u),(25,bo true),(26,bo true),(27,bo true)] [],around_sound (ans:=[(7,Ans.b true),(18,Ans.b false),(30,Ans.v (st u)),(32,Ans.b true)]) (by kernel_rfl) (And.intro h (And.intro h2 (And.intro h3 (And.intro h4 trivial)))),by show _=_; kernel_rfl⟩
theorem r84_t4 (s u:ByteArray) (r p:Nat) (z:Int) (h:(z == 65533)=true) (h2:decide ((s.size:Int) < w6 ((p:Int) + 3))=false) (h3:slc Tryz.prog 9 [] false 0 (st s) (some (i6 p)) (some (i6 (w6 ((p:Int) + 3)))) none=some (st u,[])) (h4:(!u.toList == fffd.toList)=false) :
    ∃ T,vexec Tryz.prog X call lf 0 noFg (body84 Tryz.f84) (G84 s r p z)=some (.normal,T)∧forget dk84 T=F84 s r :=
  ⟨stOf 28 [] [(0,st s),(5,st s),(6,ptrV r),(2,bo false),(3,i6 p),(4,i3 z),(7,.tup [bo true,i6 p,i3 z]),(8,bo true),(9,i6 p),(10,i3 z),(11,i3 z),(12,bo true),(13,bo true),(14,st s),(15,i6 s.size),(16,i6 p),(17,i6 (w6 ((p:Int) + 3))),(18,bo false),(19,bo false),(20,st s),(21,i6 p),(22,i6 p),(23,i6 (w6 ((p:Int) + 3))),(24,st u),(25,bo false),(26,bo false),(27,bo false)] [],around_sound (ans:=[(7,Ans.b true),(18,Ans.b false),(30,Ans.v (st u)),(32,Ans.b false)]) (by kernel_rfl) (And.intro h (And.intro h2 (And.intro h3 (And.intro h4 trivial)))),by show _=_; kernel_rfl⟩
theorem r84_6 (s:ByteArray) (r:Nat) :
    ∃ T,vexec Tryz.prog X call lf 0 noFg (.seq (rgF Tryz.f84 6) .ret) ⟨setN (setN (F84 s r).tmps 7 (.tup [bo false])) 8 (bo false),(F84 s r).st⟩=some (.ret,T)∧nth T.tmps 2=bo true :=
  ⟨stOf 28 [3,4,9,10,11,12,13,14,15,16,17,18,19,20,21,22,23,24,25,26,27] [(0,st s),(5,st s),(6,ptrV r),(2,bo true),(7,.tup [bo false]),(8,bo false)] [],by show _=_; kernel_rfl,by show _=_; kernel_rfl⟩
theorem ops84_1:(opsF Tryz.f84 1).toList=[opF Tryz.f84 1 0] ++ [opF Tryz.f84 1 1]:=by kernel_rfl
theorem ops84_2:(opsF Tryz.f84 2).toList=[opF Tryz.f84 2 0,opF Tryz.f84 2 1]:=by kernel_rfl
end
end Go.Proofs.Lex
end
