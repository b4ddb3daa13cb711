/- Part 8 of the texts of this claim: the evaluator, and what it says of the program's functions. -/
import Derived.Test.YtogacbdboplbfaaDoorParseF
import Derived.Test.YtogacbdboplbfaaDoorParseD
import Derived.Test.YtogacbdboplbfaaDoorParseG
set_option linter.unusedSectionVars false
set_option linter.unusedVariables false
set_option linter.unusedSimpArgs false
set_option linter.constructorNameAsVariable false
/- Lexicon: the small functions of the reference: a field, a word, a byte's place. -/
section
open Go Go.Vm Go.Proofs
namespace Go.Proofs.Lex
/-- The place of a byte, or the length. -/
def idxB (c:UInt8) (l:List UInt8):Nat:=l.findIdx (· == c)
theorem idxB_le (c:UInt8) (l:List UInt8):idxB c l ≤ l.length:=List.findIdx_le_length
theorem idxB_cons (c b:UInt8) (l:List UInt8):idxB c (b::l)=if b=c then 0 else idxB c l + 1:=by
  unfold idxB
  rw [List.findIdx_cons]
  by_cases h:b=c
  · rw [if_pos h]
    have:(b == c)=true:=by simpa using h
    rw [this]
    rfl
  · rw [if_neg h]
    have:(b == c)=false:=by simpa using h
    rw [this]
    rfl
theorem idxB_before {c:UInt8} {l:List UInt8} {i:Nat} (h:i < idxB c l):∃ hi:i < l.length,l[i] ≠ c:=by
  have hl:i < l.length:=Nat.lt_of_lt_of_le h (idxB_le c l)
  refine ⟨hl,fun e => ?_⟩
  have:=List.not_of_lt_findIdx h
  simp [e] at this
theorem idxB_at {c:UInt8} {l:List UInt8} (h:idxB c l < l.length):l[idxB c l]=c:=by
  have:=List.findIdx_getElem (xs:=l) (p:=(· == c)) (w:=h)
  exact beq_iff_eq.1 this
theorem spl_idx:∀ (l:List UInt8),spl l=if idxB 32 l < l.length then l.take (idxB 32 l)::spl (l.drop (idxB 32 l + 1)) else [l]
  | []=>rfl
  | b :: l => by
    rw [idxB_cons]
    by_cases h:b=32
    · rw [if_pos h]
      unfold spl
      rw [if_pos h]
      simp
      cases l <;> rfl
    · rw [if_neg h]
      have ih:=spl_idx l
      show (if b=32 then []::spl l else match spl l with | []=>[[b]] | x::r=>(b::x)::r)=_
      rw [if_neg h,ih]
      by_cases hk:idxB 32 l < l.length
      · rw [if_pos hk, if_pos (by rw [List.length_cons]; omega)]
        rfl
      · rw [if_neg hk,if_neg (by rw [List.length_cons]; omega)]
def mkB (l:List UInt8):ByteArray:=⟨l.toArray⟩
theorem mkB_data (l:List UInt8):(mkB l).data.toList=l:=rfl
theorem mkB_self (s:ByteArray):mkB s.data.toList=s:=by unfold mkB; simp
theorem ex_mk (s:ByteArray) (i j:Nat):s.extract i j=mkB ((s.data.toList.take j).drop i):=by
  rw [← ex_list,mkB_self]
theorem size_list (s:ByteArray):s.size=s.data.toList.length:=by simp
/-- A string up to its first blank, and the rest. -/
def wordF (s:ByteArray):ByteArray × ByteArray × Bool :=
  if idxB 32 s.data.toList < s.data.toList.length then (mkB (s.data.toList.take (idxB 32 s.data.toList)),mkB (s.data.toList.drop (idxB 32 s.data.toList + 1)),true) else (s,emp,false)
section
variable {X:Ext} {call:Caller} {lf:Nat}
theorem slcT {s:ByteArray} {k:Nat} {dr:Bool} {σ:List Ob} (h:k ≤ s.size):slc Tryd.prog 9 σ dr 0 (st s) none (some (i6 (k:Int))) none=some (st (mkB (s.data.toList.take k)),σ):=by
  have e:s.extract 0 k=mkB (s.data.toList.take k):=by rw [ex_mk,List.drop_zero]
  rw [← e]
  unfold slc cutOwn byValue1 slicev
  rw [Tryd.underlying9]
  have h2:(k:Int) ≤ (s.size:Int):=by omega
  cases dr <;> simp [AV.owns,boundv,keep,h]
theorem slcF {s:ByteArray} {k:Nat} {dr:Bool} {σ:List Ob} (h:k ≤ s.size):slc Tryd.prog 9 σ dr 0 (st s) (some (i6 (k:Int))) none none=some (st (mkB (s.data.toList.drop k)),σ):=by
  have e:s.extract k s.size=mkB (s.data.toList.drop k):=by rw [ex_mk,size_list,List.take_length]
  rw [← e]
  unfold slc cutOwn byValue1 slicev
  rw [Tryd.underlying9]
  cases dr <;> simp [AV.owns,boundv,keep,h]
theorem slcM {s:ByteArray} {i k:Nat} {dr:Bool} {σ:List Ob} (h:k ≤ s.size) (hi:i ≤ k):slc Tryd.prog 9 σ dr 0 (st s) (some (i6 (i:Int))) (some (i6 (k:Int))) none=some (st (mkB ((s.data.toList.take k).drop i)),σ):=by
  rw [← ex_mk]
  unfold slc cutOwn byValue1 slicev
  rw [Tryd.underlying9]
  cases dr <;> simp [AV.owns,boundv,keep,h,hi]
theorem byteN_list {s:ByteArray} {i:Nat} (h:i < s.data.toList.length):byteN s i=s.data.toList[i].toNat:=by
  have h' : i < s.data.size:=by simpa using h
  unfold byteN Array.getD
  rw [dif_pos h']
  rfl
theorem u8_ne {b c:UInt8} (h:b ≠ c):((b.toNat:Int) == (c.toNat:Int))=false:=by
  rw [beq_eq_false_iff_ne]
  intro e
  exact h (UInt8.toNat_inj.1 (by omega))
theorem word57 {s:ByteArray} (hs:s.size ≤ big) (hlf:s.size < lf):vbody Tryd.prog X call lf noFg Tryd.f57 (codeOf Tryd.f57) [st s] [] 0=some (.tup [st (wordF s).1,st (wordF s).2.1,bo (wordF s).2.2],[]):=by
  have hl:=size_list s
  have hk:=idxB_le 32 s.data.toList
  have M := f57_M s X call lf (idxB 32 s.data.toList) (fun i => (byteN s i : Int)) (fun i => mkB (s.data.toList.take i)) (fun i => mkB (s.data.toList.drop (i + 1))) (by omega)
    (fun i _ h=>at_byte (by have:=of_decide_eq_true h; omega))
    (fun i _ h _=>slcT (by have:=of_decide_eq_true h; omega))
    (fun i _ h _ => by
      have hi:i < s.size:=by have:=of_decide_eq_true h; omega
      have e:w6 ((i:Int) + 1)=((i + 1:Nat):Int):=(up hi hs).symm
      rw [e]
      exact slcF hi)
    (fun i hi h=>up (by have:=of_decide_eq_true h; omega:i < s.size) hs)
    (fun j hj => by
      obtain ⟨h1,h2⟩:=idxB_before hj
      unfold f57_o0
      rw [decide_eq_true (by omega),show ((byteN s j:Int) == 32)=false from by rw [byteN_list h1]; exact u8_ne (c:=32) h2])
  unfold wordF
  by_cases hlt:idxB 32 s.data.toList < s.data.toList.length
  · rw [if_pos hlt]
    refine M.1 ?_
    unfold f57_o0
    rw [decide_eq_true (by omega),show ((byteN s (idxB 32 s.data.toList):Int) == 32)=true from by rw [byteN_list hlt,idxB_at hlt]; rfl]
  · rw [if_neg hlt]
    refine M.2 ?_
    unfold f57_o0
    rw [decide_eq_false (by omega)]
/-- A byte's place from an index on. -/
def untilF (s:ByteArray) (n:Nat) (c:UInt8):Nat:=n + idxB c (s.data.toList.drop n)
theorem until86 {s:ByteArray} {n:Nat} {c:UInt8} (hs:s.size ≤ big) (hn:n ≤ s.size) (hlf:s.size < lf):vbody Tryd.prog X call lf noFg Tryd.f86 (codeOf Tryd.f86) [st s,i6 (n:Int),.int .u8 (c.toNat:Int)] [] 0=some (i6 (untilF s n c:Int),[]):=by
  have hl:=size_list s
  have hk:=idxB_le c (s.data.toList.drop n)
  rw [List.length_drop] at hk
  have hat : ∀ {i : Nat} (h : i < (s.data.toList.drop n).length), byteN s (n + i) = ((s.data.toList.drop n)[i]).toNat := fun {i} h => by
    rw [List.length_drop] at h
    rw [byteN_list (by omega),List.getElem_drop]
  have hup : ∀ {i : Nat}, n + i < s.size → ((n + (i + 1) : Nat) : Int) = w6 (((n + i : Nat) : Int) + 1) := fun {i} h => by
    have:=up (i:=n + i) h hs
    exact this
  have M := f86_M s (n : Int) (c.toNat : Int) (fun i => ((n + i : Nat) : Int)) X call lf (idxB c (s.data.toList.drop n)) (fun i => (byteN s (n + i) : Int)) rfl (by omega)
    (fun i _ h=>at_byte (by have:=of_decide_eq_true h; omega))
    (fun i hi h=>hup (by have:=of_decide_eq_true h; omega))
    (fun j hj => by
      obtain ⟨h1,h2⟩:=idxB_before hj
      have h1' := h1
      rw [List.length_drop] at h1'
      unfold f86_o0
      rw [decide_eq_true (show ((n + j:Nat):Int) < (s.size:Int) by omega),show ((byteN s (n + j):Int) != (c.toNat:Int))=true from by rw [bne,hat h1,u8_ne h2]; rfl])
  have hm:untilF s n c=n + idxB c (s.data.toList.drop n):=rfl
  rw [hm]
  by_cases hlt:idxB c (s.data.toList.drop n) < (s.data.toList.drop n).length
  · refine M.1 ?_
    have hlt' := hlt
    rw [List.length_drop] at hlt'
    unfold f86_o0
    rw [decide_eq_true (show ((n + idxB c (s.data.toList.drop n):Nat):Int) < (s.size:Int) by omega),show ((byteN s (n + idxB c (s.data.toList.drop n)):Int) != (c.toNat:Int))=false from by rw [bne,hat hlt,idxB_at hlt]; simp]
  · refine M.2 ?_
    rw [List.length_drop] at hlt
    unfold f86_o0
    rw [decide_eq_false (show ¬ ((n + idxB c (s.data.toList.drop n):Nat):Int) < (s.size:Int) by omega)]
end
section
variable [Fixed] {X:Ext}
abbrev aW:Arg (ByteArray × ByteArray × Bool):=Arg.tup3 aS aS aB
theorem call57 (hX:ExtOk Tryd.prog X) (hL:XL X) {s:ByteArray} (hs:s.size ≤ big):CallAt Tryd.prog 57 [aS.enc s] [] 0 (aW.enc (wordF s)) [] :=
  run_res (B:=aW) hX (callerOf_ok (SpecOk.none' (P:=Tryd.prog))) (hL.dom 57 rfl rfl) Tryd.func57 (by kernel_rfl) (word57 (lf:=s.size + 1) hs (Nat.lt_succ_self _)) (aW.de _)
theorem call86 (hX:ExtOk Tryd.prog X) (hL:XL X) {s:ByteArray} {n:Nat} {c:UInt8} (hs:s.size ≤ big) (hn:n ≤ s.size):CallAt Tryd.prog 86 [aS.enc s,aI.enc (n:Int),.int .u8 (c.toNat:Int)] [] 0 (aI.enc (untilF s n c:Int)) [] :=
  run_res (B:=aI) hX (callerOf_ok (SpecOk.none' (P:=Tryd.prog))) (hL.dom 86 rfl rfl) Tryd.func86 (by kernel_rfl) (until86 (lf:=s.size + 1) hs hn (Nat.lt_succ_self _)) (aI.de _)
theorem call51 (hX:ExtOk Tryd.prog X) (hL:XL X) (s:ByteArray):CallAt Tryd.prog 51 [aS.enc s] [] 0 (aS.enc (dashS s)) []:=by
  refine run_res (B:=aS) (lf:=0) (fg:=noFg) (σ' := []) (r:=st (dashS s)) hX (callerOf_ok (SpecOk.none' (P:=Tryd.prog))) (hL.dom 51 rfl rfl) Tryd.func51 (by kernel_rfl) ?_ (aS.de _)
  unfold dashS
  by_cases e:s=emp
  · rw [if_pos e]
    exact (f51_P0 s X _ 0).1 (by unfold f51_q0; rw [show (s.toList == (ByteArray.mk #[]).toList)=true from eqB_iff.2 e])
  · rw [if_neg e]
    exact (f51_P0 s X _ 0).2 (by unfold f51_q0; rw [show (s.toList == (ByteArray.mk #[]).toList)=false from eqB_ne.2 e])
theorem call58 (hX:ExtOk Tryd.prog X) (hL:XL X) (s:ByteArray):CallAt Tryd.prog 58 [aS.enc s] [] 0 (aS.enc (undashS s)) []:=by
  refine run_res (B:=aS) (lf:=0) (fg:=noFg) (σ' := []) (r:=st (undashS s)) hX (callerOf_ok (SpecOk.none' (P:=Tryd.prog))) (hL.dom 58 rfl rfl) Tryd.func58 (by kernel_rfl) ?_ (aS.de _)
  unfold undashS
  by_cases e:s=⟨#[45]⟩
  · rw [if_pos e]
    exact (f58_P0 s X _ 0).1 (by unfold f58_q0; rw [show (s.toList == (ByteArray.mk #[45]).toList)=true from eqB_iff.2 e])
  · rw [if_neg e]
    exact (f58_P0 s X _ 0).2 (by unfold f58_q0; rw [show (s.toList == (ByteArray.mk #[45]).toList)=false from eqB_ne.2 e])
end
end Go.Proofs.Lex
end
/- Lexicon: the reference texts, walked (printed) -/
section
open Go Go.Vm Go.Proofs
namespace Go.Proofs.Lex
def f52_F0 (F0:List Feat)(z3:Nat→ByteArray)(i0:Nat):St :=
  stOf 30 [5,6,7,8,9,10,11,12,13,14,15,16,17,18,19,20,21,22,23,24,25,26,27,28] [(0,lro F0.length 2 (F0.flatMap featC)),(2,st (ByteArray.mk #[])),(3,st (z3 i0)),(4,i6 (↑i0:Int))] []
def f52_S0 (F0:List Feat):St :=
  stOf 30 [] [(0,lro F0.length 2 (F0.flatMap featC)),(2,st (ByteArray.mk #[])),(3,st (ByteArray.mk #[])),(4,i6 0)] []
abbrev f52_D0:List Nat:=[10,9,28,27,26,25,24,23,22,21,20,19,18,17,16,15,14,13,12,11,8,7,6,5]
theorem f52_L0 (F0:List Feat)(z3:Nat→ByteArray)(X:Ext)(call:Caller)(lf n:Nat)(x:Ex) (S' : St)
 (e0:z3 0=ByteArray.mk #[])
 (hn:n<lf)
 (hs:∀ j,j<n→∃ Sx,vexec Tryd.prog X call lf 0 noFg (loopN Tryd.f52 0) (f52_F0 F0 z3 j)=some (Ex.normal,Sx)∧forget f52_D0 Sx=(f52_F0 F0 z3 (j + 1)))
 (he:vexec Tryd.prog X call lf 0 noFg (loopN Tryd.f52 0) (f52_F0 F0 z3 n)=some (x,S'))
 (hx:x ≠ Ex.normal):vexec Tryd.prog X call lf 0 noFg (Go.Code.loop (loopN Tryd.f52 0)) (f52_S0 F0)=some (x,S') :=
  loop_runK (by kernel_rfl) (fun j=>(f52_F0 F0 z3 j)) n hn (by show forget f52_D0 (f52_S0 F0)=(f52_F0 F0 z3 0); unfold f52_F0; rw [e0]; show _=_; kernel_rfl) hs he hx
theorem f52_s0_tt (F0:List Feat)(z3:Nat→ByteArray)(X:Ext)(call:Caller)(lf i0:Nat)(x14 a c:ByteArray)(r18:List AV)(x21 x22 d e:ByteArray)(r25:List AV)(x28:ByteArray)
 (h0:decide ((↑i0:Int)<(↑F0.length:Int))=true)
 (h1:decide ((↑i0:Int)>0)=true)
 (h2:keep [] (binv Tryd.prog BinOp.add 9 (st (z3 i0)) (st (ByteArray.mk #[32])))=some (st x14,[]))
 (h3:keep [] (indexAddrv Tryd.prog 31 [] (lro F0.length 2 (F0.flatMap featC)) (i6 (↑i0:Int)))=some (AV.eaddr (st a::st c::r18),[]))
 (h4:keep [] (binv Tryd.prog BinOp.add 9 (st x14) (st a))=some (st x21,[]))
 (h5:keep [] (binv Tryd.prog BinOp.add 9 (st x21) (st (ByteArray.mk #[61])))=some (st x22,[]))
 (h6:keep [] (indexAddrv Tryd.prog 31 [] (lro F0.length 2 (F0.flatMap featC)) (i6 (↑i0:Int)))=some (AV.eaddr (st d::st e::r25),[]))
 (h7:keep [] (binv Tryd.prog BinOp.add 9 (st x22) (st e))=some (st x28,[]))
 (e0:z3 (i0 + 1)=x28)
 (e1:(↑(i0 + 1):Int)=w6 ((↑i0:Int) + 1)):∃ Sx,vexec Tryd.prog X call lf 0 noFg (loopN Tryd.f52 0) (f52_F0 F0 z3 i0)=some (Ex.normal,Sx)∧forget f52_D0 Sx=(f52_F0 F0 z3 (i0 + 1)) :=
  ⟨stOf 30 [] [(0,lro F0.length 2 (F0.flatMap featC)),(2,st (ByteArray.mk #[])),(3,st x28),(4,i6 (w6 ((↑i0:Int) + 1))),(5,i6 (↑i0:Int)),(6,lro F0.length 2 (F0.flatMap featC)),(7,i6 (↑F0.length:Int)),(8,bo true),(9,i6 (↑i0:Int)),(10,i6 (w6 ((↑i0:Int) + 1))),(11,i6 (↑i0:Int)),(12,bo true),(13,st (z3 i0)),(14,st x14),(15,st x14),(16,lro F0.length 2 (F0.flatMap featC)),(17,i6 (↑i0:Int)),(18,AV.eaddr (st a::st c::r18)),(19,AV.eaddr (st a::st c::r18)),(20,st a),(21,st x21),(22,st x22),(23,lro F0.length 2 (F0.flatMap featC)),(24,i6 (↑i0:Int)),(25,AV.eaddr (st d::st e::r25)),(26,AV.eaddr (st e::r25)),(27,st e),(28,st x28)] [],around_sound (ans:=[(4,Ans.b true),(8,Ans.b true),(12,Ans.v (st x14)),(18,Ans.v (AV.eaddr (st a::st c::r18))),(21,Ans.v (st x21)),(22,Ans.v (st x22)),(25,Ans.v (AV.eaddr (st d::st e::r25))),(28,Ans.v (st x28))]) (by kernel_rfl) (ai h0 (ai h1 (ai h2 (ai h3 (ai h4 (ai h5 (ai h6 (ai h7 trivial)))))))),by unfold f52_F0; rw [e0,e1]; show _=_; kernel_rfl⟩
theorem f52_s0_tf (F0:List Feat)(z3:Nat→ByteArray)(X:Ext)(call:Caller)(lf i0:Nat)(a c:ByteArray)(r18:List AV)(x21 x22 d e:ByteArray)(r25:List AV)(x28:ByteArray)
 (h0:decide ((↑i0:Int)<(↑F0.length:Int))=true)
 (h1:decide ((↑i0:Int)>0)=false)
 (h2:keep [] (indexAddrv Tryd.prog 31 [] (lro F0.length 2 (F0.flatMap featC)) (i6 (↑i0:Int)))=some (AV.eaddr (st a::st c::r18),[]))
 (h3:keep [] (binv Tryd.prog BinOp.add 9 (st (z3 i0)) (st a))=some (st x21,[]))
 (h4:keep [] (binv Tryd.prog BinOp.add 9 (st x21) (st (ByteArray.mk #[61])))=some (st x22,[]))
 (h5:keep [] (indexAddrv Tryd.prog 31 [] (lro F0.length 2 (F0.flatMap featC)) (i6 (↑i0:Int)))=some (AV.eaddr (st d::st e::r25),[]))
 (h6:keep [] (binv Tryd.prog BinOp.add 9 (st x22) (st e))=some (st x28,[]))
 (e0:z3 (i0 + 1)=x28)
 (e1:(↑(i0 + 1):Int)=w6 ((↑i0:Int) + 1)):∃ Sx,vexec Tryd.prog X call lf 0 noFg (loopN Tryd.f52 0) (f52_F0 F0 z3 i0)=some (Ex.normal,Sx)∧forget f52_D0 Sx=(f52_F0 F0 z3 (i0 + 1)) :=
  ⟨stOf 30 [13,14] [(0,lro F0.length 2 (F0.flatMap featC)),(2,st (ByteArray.mk #[])),(3,st x28),(4,i6 (w6 ((↑i0:Int) + 1))),(5,i6 (↑i0:Int)),(6,lro F0.length 2 (F0.flatMap featC)),(7,i6 (↑F0.length:Int)),(8,bo true),(9,i6 (↑i0:Int)),(10,i6 (w6 ((↑i0:Int) + 1))),(11,i6 (↑i0:Int)),(12,bo false),(15,st (z3 i0)),(16,lro F0.length 2 (F0.flatMap featC)),(17,i6 (↑i0:Int)),(18,AV.eaddr (st a::st c::r18)),(19,AV.eaddr (st a::st c::r18)),(20,st a),(21,st x21),(22,st x22),(23,lro F0.length 2 (F0.flatMap featC)),(24,i6 (↑i0:Int)),(25,AV.eaddr (st d::st e::r25)),(26,AV.eaddr (st e::r25)),(27,st e),(28,st x28)] [],around_sound (ans:=[(4,Ans.b true),(8,Ans.b false),(14,Ans.v (AV.eaddr (st a::st c::r18))),(17,Ans.v (st x21)),(18,Ans.v (st x22)),(21,Ans.v (AV.eaddr (st d::st e::r25))),(24,Ans.v (st x28))]) (by kernel_rfl) (ai h0 (ai h1 (ai h2 (ai h3 (ai h4 (ai h5 (ai h6 trivial))))))),by unfold f52_F0; rw [e0,e1]; show _=_; kernel_rfl⟩
def f52_S1 (F0:List Feat)(z3:Nat→ByteArray)(i0:Nat):St :=
  stOf 30 [9,10,11,12,13,14,15,16,17,18,19,20,21,22,23,24,25,26,27,28] [(0,lro F0.length 2 (F0.flatMap featC)),(2,st (ByteArray.mk #[])),(3,st (z3 i0)),(4,i6 (↑i0:Int)),(5,i6 (↑i0:Int)),(6,lro F0.length 2 (F0.flatMap featC)),(7,i6 (↑F0.length:Int)),(8,bo false)] []
theorem f52_r0_f (F0:List Feat)(z3:Nat→ByteArray)(X:Ext)(call:Caller)(lf i0:Nat)
 (h0:decide ((↑i0:Int)<(↑F0.length:Int))=false):vexec Tryd.prog X call lf 0 noFg (loopN Tryd.f52 0) (f52_F0 F0 z3 i0)=some (Ex.exit 0,(f52_S1 F0 z3 i0)) :=
  around_sound (ans:=[(4,Ans.b false)]) (by kernel_rfl) (ai h0 trivial)
theorem f52_plf (F0:List Feat)(z3:Nat→ByteArray)(X:Ext)(call:Caller)(lf i0:Nat)
 (h0:vexec Tryd.prog X call lf 0 noFg (Code.loop (loopN Tryd.f52 0)) (f52_S0 F0)=some (Ex.exit 0,(f52_S1 F0 z3 i0))):vbody Tryd.prog X call lf noFg Tryd.f52 (codeOf Tryd.f52) [featsV F0] [] 0=some (st (z3 i0),[]) :=
  along_sound (ans:=[(6,Ans.l (Ex.exit 0) (f52_S1 F0 z3 i0))]) (by kernel_rfl) (ai h0 trivial)
def fg59:Nat→List Nat
  | 2008=>[7000012]
  | _=>[]
def f59_F0 (s0:ByteArray)(n5:Nat→Int)(o4:Nat→AV)(S0:Nat→List Ob)(i0:Nat):St :=
  stOf 56 [2,3,6,7,9,10,11,12,13,14,15,16,17,18,19,20,21,22,23,24,25,26,27,28,29,30,31,32,33,34,35,36,37,38,39,40,41,42,43,44,45] [(0,st s0),(4,o4 i0),(5,i6 (n5 i0)),(8,AV.list LK.clip 0 2 [])] (S0 i0)
def f59_S0 (s0:ByteArray):St :=
  stOf 56 [] [(0,st s0),(2,AV.list LK.nil 0 0 []),(3,bo false),(4,AV.list LK.clip 0 2 []),(5,i6 0),(8,AV.list LK.clip 0 2 [])] []
abbrev f59_D0:List Nat:=[45,44,43,42,41,40,39,38,37,36,35,34,33,32,31,3,2,30,29,28,27,26,25,24,23,7,22,21,20,6,19,18,17,16,15,14,13,12,11,10,9]
theorem f59_L0 (s0:ByteArray)(n5:Nat→Int)(o4:Nat→AV)(S0:Nat→List Ob)(X:Ext)(call:Caller)(lf n:Nat)(x:Ex) (S' : St)
 (e0:o4 0=AV.list LK.clip 0 2 [])
 (e1:n5 0=0)
 (e2:S0 0=[])
 (hn:n<lf)
 (hs:∀ j,j<n→∃ Sx,vexec Tryd.prog X call lf 0 fg59 (loopN Tryd.f59 0) (f59_F0 s0 n5 o4 S0 j)=some (Ex.normal,Sx)∧forget f59_D0 Sx=(f59_F0 s0 n5 o4 S0 (j + 1)))
 (he:vexec Tryd.prog X call lf 0 fg59 (loopN Tryd.f59 0) (f59_F0 s0 n5 o4 S0 n)=some (x,S'))
 (hx:x ≠ Ex.normal):vexec Tryd.prog X call lf 0 fg59 (Go.Code.loop (loopN Tryd.f59 0)) (f59_S0 s0)=some (x,S') :=
  loop_runK (by kernel_rfl) (fun j=>(f59_F0 s0 n5 o4 S0 j)) n hn (by show forget f59_D0 (f59_S0 s0)=(f59_F0 s0 n5 o4 S0 0); unfold f59_F0; rw [e0,e1,e2]; show _=_; kernel_rfl) hs he hx
def f59_S1 (s0:ByteArray)(n5:Nat→Int)(o4:Nat→AV)(S0:Nat→List Ob)(i0:Nat)(n19 n22:Int):St :=
  stOf 56 [31,32,33,34,35,36,37,38,39,40,41,42,43,44,45] [(0,st s0),(2,AV.list LK.nil 0 0 []),(3,bo false),(4,o4 i0),(5,i6 (n5 i0)),(6,i6 n19),(7,i6 n22),(8,AV.list LK.clip 0 2 []),(9,st s0),(10,bo true),(11,bo true),(12,i6 (n5 i0)),(13,st s0),(14,i6 (↑(ByteArray.size s0):Int)),(15,bo true),(16,bo true),(17,st s0),(18,i6 (n5 i0)),(19,i6 n19),(20,st s0),(21,i6 (n5 i0)),(22,i6 n22),(23,i6 n22),(24,i6 n19),(25,bo true),(26,bo true),(30,bo true)] (S0 i0)
theorem f59_r0_ttt (s0:ByteArray)(n5:Nat→Int)(o4:Nat→AV)(S0:Nat→List Ob)(X:Ext)(call:Caller)(lf i0:Nat)(n19 n22:Int)
 (h0:(!ByteArray.toList s0 == ByteArray.toList (ByteArray.mk #[]))=true)
 (h1:decide (n5 i0 ≤ (↑(ByteArray.size s0):Int))=true)
 (h2:callv X call false 86 [st s0,i6 (n5 i0),AV.int IntKind.u8 32] (S0 i0) 0=some (i6 n19,S0 i0))
 (h3:callv X call false 86 [st s0,i6 (n5 i0),AV.int IntKind.u8 61] (S0 i0) 0=some (i6 n22,S0 i0))
 (h4:decide (n22 ≥ n19)=true):vexec Tryd.prog X call lf 0 fg59 (loopN Tryd.f59 0) (f59_F0 s0 n5 o4 S0 i0)=some (Ex.ret,(f59_S1 s0 n5 o4 S0 i0 n19 n22)) :=
  around_sound (ans:=[(2,Ans.b true),(11,Ans.b true),(17,Ans.v (i6 n19)),(22,Ans.v (i6 n22)),(27,Ans.b true)]) (by kernel_rfl) (ai h0 (ai h1 (ai h2 (ai h3 (ai h4 trivial)))))
theorem f59_plttt (s0:ByteArray)(n5:Nat→Int)(o4:Nat→AV)(S0:Nat→List Ob)(X:Ext)(call:Caller)(lf i0:Nat)(n19 n22:Int)
 (h0:vexec Tryd.prog X call lf 0 fg59 (Code.loop (loopN Tryd.f59 0)) (f59_S0 s0)=some (Ex.ret,(f59_S1 s0 n5 o4 S0 i0 n19 n22))):vbody Tryd.prog X call lf fg59 Tryd.f59 (codeOf Tryd.f59) [st s0] [] 0=some (AV.tup [AV.list LK.nil 0 0 [],bo false],S0 i0) :=
  along_sound (ans:=[(8,Ans.l Ex.ret (f59_S1 s0 n5 o4 S0 i0 n19 n22))]) (by kernel_rfl) (ai h0 trivial)
def f59_S2 (s0:ByteArray)(n5:Nat→Int)(o4:Nat→AV)(S0:Nat→List Ob)(i0:Nat)(n19 n22 n28:Int):St :=
  stOf 56 [31,32,33,34,35,36,37,38,39,40,41,42,43,44,45] [(0,st s0),(2,AV.list LK.nil 0 0 []),(3,bo false),(4,o4 i0),(5,i6 (n5 i0)),(6,i6 n19),(7,i6 n22),(8,AV.list LK.clip 0 2 []),(9,st s0),(10,bo true),(11,bo true),(12,i6 (n5 i0)),(13,st s0),(14,i6 (↑(ByteArray.size s0):Int)),(15,bo true),(16,bo true),(17,st s0),(18,i6 (n5 i0)),(19,i6 n19),(20,st s0),(21,i6 (n5 i0)),(22,i6 n22),(23,i6 n22),(24,i6 n19),(25,bo false),(26,bo false),(27,o4 i0),(28,i6 n28),(29,bo true),(30,bo true)] (S0 i0)
theorem f59_r0_ttft (s0:ByteArray)(n5:Nat→Int)(o4:Nat→AV)(S0:Nat→List Ob)(X:Ext)(call:Caller)(lf i0:Nat)(n19 n22 n28:Int)
 (h0:(!ByteArray.toList s0 == ByteArray.toList (ByteArray.mk #[]))=true)
 (h1:decide (n5 i0 ≤ (↑(ByteArray.size s0):Int))=true)
 (h2:callv X call false 86 [st s0,i6 (n5 i0),AV.int IntKind.u8 32] (S0 i0) 0=some (i6 n19,S0 i0))
 (h3:callv X call false 86 [st s0,i6 (n5 i0),AV.int IntKind.u8 61] (S0 i0) 0=some (i6 n22,S0 i0))
 (h4:decide (n22 ≥ n19)=false)
 (h5:keep (S0 i0) (lenv Tryd.prog 31 (S0 i0) (o4 i0))=some (i6 n28,S0 i0))
 (h6:decide (n28>8)=true):vexec Tryd.prog X call lf 0 fg59 (loopN Tryd.f59 0) (f59_F0 s0 n5 o4 S0 i0)=some (Ex.ret,(f59_S2 s0 n5 o4 S0 i0 n19 n22 n28)) :=
  around_sound (ans:=[(2,Ans.b true),(11,Ans.b true),(17,Ans.v (i6 n19)),(22,Ans.v (i6 n22)),(27,Ans.b false),(32,Ans.v (i6 n28)),(34,Ans.b true)]) (by kernel_rfl) (ai h0 (ai h1 (ai h2 (ai h3 (ai h4 (ai h5 (ai h6 trivial)))))))
theorem f59_plttft (s0:ByteArray)(n5:Nat→Int)(o4:Nat→AV)(S0:Nat→List Ob)(X:Ext)(call:Caller)(lf i0:Nat)(n19 n22 n28:Int)
 (h0:vexec Tryd.prog X call lf 0 fg59 (Code.loop (loopN Tryd.f59 0)) (f59_S0 s0)=some (Ex.ret,(f59_S2 s0 n5 o4 S0 i0 n19 n22 n28))):vbody Tryd.prog X call lf fg59 Tryd.f59 (codeOf Tryd.f59) [st s0] [] 0=some (AV.tup [AV.list LK.nil 0 0 [],bo false],S0 i0) :=
  along_sound (ans:=[(8,Ans.l Ex.ret (f59_S2 s0 n5 o4 S0 i0 n19 n22 n28))]) (by kernel_rfl) (ai h0 trivial)
theorem f59_s0_ttff (s0:ByteArray)(n5:Nat→Int)(o4:Nat→AV)(S0:Nat→List Ob)(X:Ext)(call:Caller)(lf i0:Nat)(n19 n22 n28:Int)(x35 x40:ByteArray)(v43:AV)(s43:List Ob)
 (h0:(!ByteArray.toList s0 == ByteArray.toList (ByteArray.mk #[]))=true)
 (h1:decide (n5 i0 ≤ (↑(ByteArray.size s0):Int))=true)
 (h2:callv X call false 86 [st s0,i6 (n5 i0),AV.int IntKind.u8 32] (S0 i0) 0=some (i6 n19,S0 i0))
 (h3:callv X call false 86 [st s0,i6 (n5 i0),AV.int IntKind.u8 61] (S0 i0) 0=some (i6 n22,S0 i0))
 (h4:decide (n22 ≥ n19)=false)
 (h5:keep (S0 i0) (lenv Tryd.prog 31 (S0 i0) (o4 i0))=some (i6 n28,S0 i0))
 (h6:decide (n28>8)=false)
 (h7:slc Tryd.prog 9 (S0 i0) true 0 (st s0) (some (i6 (n5 i0))) (some (i6 n22)) none=some (st x35,S0 i0))
 (h8:slc Tryd.prog 9 (S0 i0) true 0 (st s0) (some (i6 (w6 (n22 + 1)))) (some (i6 n19)) none=some (st x40,S0 i0))
 (h9:appendv Tryd.prog 31 (S0 i0) 0 (o4 i0) (AV.list LK.clip 1 2 [st x35,st x40])=some (v43,s43))
 (e0:o4 (i0 + 1)=v43)
 (e1:n5 (i0 + 1)=w6 (n19 + 1))
 (e2:S0 (i0 + 1)=s43):∃ Sx,vexec Tryd.prog X call lf 0 fg59 (loopN Tryd.f59 0) (f59_F0 s0 n5 o4 S0 i0)=some (Ex.normal,Sx)∧forget f59_D0 Sx=(f59_F0 s0 n5 o4 S0 (i0 + 1)) :=
  ⟨stOf 56 [2,3] [(0,st s0),(4,v43),(5,i6 (w6 (n19 + 1))),(6,i6 n19),(7,i6 n22),(8,AV.list LK.clip 0 2 []),(9,st s0),(10,bo true),(11,bo true),(12,i6 (n5 i0)),(13,st s0),(14,i6 (↑(ByteArray.size s0):Int)),(15,bo true),(16,bo true),(17,st s0),(18,i6 (n5 i0)),(19,i6 n19),(20,st s0),(21,i6 (n5 i0)),(22,i6 n22),(23,i6 n22),(24,i6 n19),(25,bo false),(26,bo false),(27,o4 i0),(28,i6 n28),(29,bo false),(30,bo false),(31,o4 i0),(32,st s0),(33,i6 (n5 i0)),(34,i6 n22),(35,st x35),(36,st s0),(37,i6 n22),(38,i6 (w6 (n22 + 1))),(39,i6 n19),(40,st x40),(41,AV.agg [st x35,st x40]),(42,AV.list LK.clip 1 2 [st x35,st x40]),(43,v43),(44,i6 n19),(45,i6 (w6 (n19 + 1)))] s43,around_sound (ans:=[(2,Ans.b true),(11,Ans.b true),(17,Ans.v (i6 n19)),(22,Ans.v (i6 n22)),(27,Ans.b false),(32,Ans.v (i6 n28)),(34,Ans.b false),(42,Ans.v (st x35)),(47,Ans.v (st x40)),(50,Ans.c v43 s43)]) (by kernel_rfl) (ai h0 (ai h1 (ai h2 (ai h3 (ai h4 (ai h5 (ai h6 (ai h7 (ai h8 (ai h9 trivial)))))))))),by unfold f59_F0; rw [e0,e1,e2]; show _=_; kernel_rfl⟩
def f59_S3 (s0:ByteArray)(n5:Nat→Int)(o4:Nat→AV)(S0:Nat→List Ob)(i0:Nat):St :=
  stOf 56 [2,3,6,7,17,18,19,20,21,22,23,24,25,26,27,28,29,30,31,32,33,34,35,36,37,38,39,40,41,42,43,44,45] [(0,st s0),(4,o4 i0),(5,i6 (n5 i0)),(8,AV.list LK.clip 0 2 []),(9,st s0),(10,bo true),(11,bo true),(12,i6 (n5 i0)),(13,st s0),(14,i6 (↑(ByteArray.size s0):Int)),(15,bo false),(16,bo false)] (S0 i0)
theorem f59_r0_tf (s0:ByteArray)(n5:Nat→Int)(o4:Nat→AV)(S0:Nat→List Ob)(X:Ext)(call:Caller)(lf i0:Nat)
 (h0:(!ByteArray.toList s0 == ByteArray.toList (ByteArray.mk #[]))=true)
 (h1:decide (n5 i0 ≤ (↑(ByteArray.size s0):Int))=false):vexec Tryd.prog X call lf 0 fg59 (loopN Tryd.f59 0) (f59_F0 s0 n5 o4 S0 i0)=some (Ex.exit 0,(f59_S3 s0 n5 o4 S0 i0)) :=
  around_sound (ans:=[(2,Ans.b true),(11,Ans.b false)]) (by kernel_rfl) (ai h0 (ai h1 trivial))
theorem f59_pltft (s0:ByteArray)(n5:Nat→Int)(o4:Nat→AV)(S0:Nat→List Ob)(b47:Bool)(s47:List Ob)(X:Ext)(call:Caller)(lf i0:Nat)
 (h0:vexec Tryd.prog X call lf 0 fg59 (Code.loop (loopN Tryd.f59 0)) (f59_S0 s0)=some (Ex.exit 0,(f59_S3 s0 n5 o4 S0 i0)))
 (h1:callv X call false 50 [o4 i0] (S0 i0) 0=some (bo b47,s47))
 (h2:(!b47)=true):vbody Tryd.prog X call lf fg59 Tryd.f59 (codeOf Tryd.f59) [st s0] [] 0=some (AV.tup [AV.list LK.nil 0 0 [],bo false],s47) :=
  along_sound (ans:=[(8,Ans.l (Ex.exit 0) (f59_S3 s0 n5 o4 S0 i0)),(11,Ans.c (bo b47) s47),(12,Ans.b true)]) (by kernel_rfl) (ai h0 (ai h1 (ai h2 trivial)))
theorem f59_pltfff (s0:ByteArray)(n5:Nat→Int)(o4:Nat→AV)(S0:Nat→List Ob)(b47:Bool)(s47:List Ob)(X:Ext)(call:Caller)(lf i0:Nat)(x51:ByteArray)(rE:AV)(sE:List Ob)
 (h0:vexec Tryd.prog X call lf 0 fg59 (Code.loop (loopN Tryd.f59 0)) (f59_S0 s0)=some (Ex.exit 0,(f59_S3 s0 n5 o4 S0 i0)))
 (h1:callv X call false 50 [o4 i0] (S0 i0) 0=some (bo b47,s47))
 (h2:(!b47)=false)
 (h3:callv X call false 52 [o4 i0] s47 0=some (st x51,s47))
 (h4:(!ByteArray.toList x51 == ByteArray.toList s0)=false)
 (h5:vend1 [] 0 s47 [o4 i0,bo true]=some (rE,sE)):vbody Tryd.prog X call lf fg59 Tryd.f59 (codeOf Tryd.f59) [st s0] [] 0=some (rE,sE) :=
  along_sound (ans:=[(8,Ans.l (Ex.exit 0) (f59_S3 s0 n5 o4 S0 i0)),(11,Ans.c (bo b47) s47),(12,Ans.b false),(17,Ans.v (st x51)),(21,Ans.b false),(28,Ans.c rE sE)]) (by kernel_rfl) (ai h0 (ai h1 (ai h2 (ai h3 (ai h4 (ai h5 trivial))))))
def f59_S4 (s0:ByteArray)(n5:Nat→Int)(o4:Nat→AV)(S0:Nat→List Ob)(i0:Nat):St :=
  stOf 56 [2,3,6,7,17,18,19,20,21,22,23,24,25,26,27,28,29,30,31,32,33,34,35,36,37,38,39,40,41,42,43,44,45] [(0,st s0),(4,o4 i0),(5,i6 (n5 i0)),(8,AV.list LK.clip 0 2 []),(9,st s0),(10,bo false),(11,bo false),(16,bo false)] (S0 i0)
theorem f59_r0_f (s0:ByteArray)(n5:Nat→Int)(o4:Nat→AV)(S0:Nat→List Ob)(X:Ext)(call:Caller)(lf i0:Nat)
 (h0:(!ByteArray.toList s0 == ByteArray.toList (ByteArray.mk #[]))=false):vexec Tryd.prog X call lf 0 fg59 (loopN Tryd.f59 0) (f59_F0 s0 n5 o4 S0 i0)=some (Ex.exit 0,(f59_S4 s0 n5 o4 S0 i0)) :=
  around_sound (ans:=[(2,Ans.b false)]) (by kernel_rfl) (ai h0 trivial)
theorem f59_plfff (s0:ByteArray)(n5:Nat→Int)(o4:Nat→AV)(S0:Nat→List Ob)(b47:Bool)(s47:List Ob)(X:Ext)(call:Caller)(lf i0:Nat)(x51:ByteArray)(rE:AV)(sE:List Ob)
 (h0:vexec Tryd.prog X call lf 0 fg59 (Code.loop (loopN Tryd.f59 0)) (f59_S0 s0)=some (Ex.exit 0,(f59_S4 s0 n5 o4 S0 i0)))
 (h1:callv X call false 50 [o4 i0] (S0 i0) 0=some (bo b47,s47))
 (h2:(!b47)=false)
 (h3:callv X call false 52 [o4 i0] s47 0=some (st x51,s47))
 (h4:(!ByteArray.toList x51 == ByteArray.toList s0)=false)
 (h5:vend1 [] 0 s47 [o4 i0,bo true]=some (rE,sE)):vbody Tryd.prog X call lf fg59 Tryd.f59 (codeOf Tryd.f59) [st s0] [] 0=some (rE,sE) :=
  along_sound (ans:=[(8,Ans.l (Ex.exit 0) (f59_S4 s0 n5 o4 S0 i0)),(11,Ans.c (bo b47) s47),(12,Ans.b false),(17,Ans.v (st x51)),(21,Ans.b false),(28,Ans.c rE sE)]) (by kernel_rfl) (ai h0 (ai h1 (ai h2 (ai h3 (ai h4 (ai h5 trivial))))))
end Go.Proofs.Lex
end
/- Lexicon: the reference's text of a record. -/
section
open Go Go.Vm Go.Proofs
namespace Go.Proofs.Lex
theorem append_mk (x y:ByteArray):x ++ y=mkB (x.data.toList ++ y.data.toList):=by
  apply Go.WideShapes.bytes_inj
  rw [mkB_data,ByteArray.data_append,Array.toList_append]
theorem addB {x y:ByteArray} {σ:List Ob} (h:x.data.toList.length + y.data.toList.length ≤ big):keep σ (binv Tryd.prog BinOp.add 9 (st x) (st y))=some (st (mkB (x.data.toList ++ y.data.toList)),σ):=by
  have h' : x.data.toList.length + y.data.toList.length ≤ 140737488355328:=h
  rw [← append_mk]
  have hs : ¬ (((x.size + y.size : Nat) : Int) > IntKind.i64.max) := by
    rw [size_list,size_list]
    show ¬ (_ > (9223372036854775807:Int))
    omega
  show keep σ (strOp .add x y)=_
  unfold strOp
  simp only
  rw [if_neg hs]
  rfl
section
variable {X:Ext} {call:Caller} {lf:Nat}
theorem text52 {F:List Feat} (hF:F.length ≤ big) (ht:(textF F).length ≤ big) (hlf:F.length < lf):vbody Tryd.prog X call lf noFg Tryd.f52 (codeOf Tryd.f52) [featsV F] [] 0=some (st (mkB (textF F)),[]):=by
  have mono : ∀ i, i ≤ F.length → (textN F i).length ≤ (textF F).length := by
    intro i hi
    have : ∀ k, (textN F i).length ≤ (textN F (i + k)).length := by
      intro k
      induction k with
      | zero=>exact Nat.le_refl _
      | succ k ih=>exact Nat.le_trans ih (textN_le F (i + k))
    have:=this (F.length - i)
    rwa [Nat.add_sub_cancel' hi] at this
  refine f52_plf F (fun i=>mkB (textN F i)) X call lf F.length (f52_L0 F (fun i=>mkB (textN F i)) X call lf F.length _ _ rfl hlf (fun j hj => ?_) (f52_r0_f F _ X call lf F.length (decide_eq_false (by omega))) (by simp))
  have hd:decide ((j:Int) < (F.length:Int))=true:=decide_eq_true (by omega)
  have hm:=mono (j + 1) hj
  have hb:(textF F).length ≤ 140737488355328:=ht
  by_cases h0:0 < j
  · have e : textN F (j + 1) = ((textN F j ++ [32] ++ (nF F j).name.data.toList) ++ [61]) ++ (nF F j).value.data.toList := by
      show ((cond (decide (0 < j)) (textN F j ++ [32]) [] ++ _) ++ _) ++ _=_
      rw [decide_eq_true h0]
      rfl
    rw [e] at hm
    simp only [List.length_append,List.length_cons,List.length_nil] at hm
    refine f52_s0_tt F (fun i=>mkB (textN F i)) X call lf j _ _ _ _ _ _ _ _ _ _ hd (decide_eq_true (by omega)) (addB ?_) (at_feat hj) (addB ?_) (addB ?_) (at_feat hj) (addB ?_) ?_ (up hj hF)
    all_goals try (simp only [mkB_data,List.length_append,List.length_cons,List.length_nil]; show _ ≤ 140737488355328; omega)
    · show mkB (textN F (j + 1)) = _
      rw [e]
      rfl
  · have hj0 : j = 0 := by omega
    subst hj0
    have e:textN F (0 + 1)=(([] ++ (nF F 0).name.data.toList) ++ [61]) ++ (nF F 0).value.data.toList:=rfl
    rw [e] at hm
    simp only [List.length_append,List.length_cons,List.length_nil] at hm
    refine f52_s0_tf F (fun i=>mkB (textN F i)) X call lf 0 _ _ _ _ _ _ _ _ _ hd (by decide) (at_feat hj) (addB ?_) (addB ?_) (at_feat hj) (addB ?_) ?_ (up hj hF)
    · show (0:Nat) + (nF F 0).name.data.toList.length ≤ 140737488355328; omega
    · show (([] : List UInt8) ++ (nF F 0).name.data.toList).length + 1 ≤ 140737488355328
      simp only [List.length_append,List.length_cons,List.length_nil]; omega
    · show ((([] : List UInt8) ++ (nF F 0).name.data.toList) ++ [61]).length + (nF F 0).value.data.toList.length ≤ 140737488355328
      simp only [List.length_append,List.length_cons,List.length_nil]; omega
    · show mkB (textN F (0 + 1)) = _
      rw [e]
      rfl
end
section
variable [Fixed] {X:Ext}
theorem call52 (hX:ExtOk Tryd.prog X) (hL:XL X) {F:List Feat} (hF:F.length ≤ big) (ht:(textF F).length ≤ big):CallAt Tryd.prog 52 [aFs.enc F] [] 0 (aS.enc (mkB (textF F))) [] :=
  run_res (B:=aS) hX (callerOf_ok (SpecOk.none' (P:=Tryd.prog))) (hL.dom 52 rfl rfl) Tryd.func52 (by kernel_rfl) (text52 (lf:=F.length + 1) hF ht (Nat.lt_succ_self _)) (aS.de _)
end
end Go.Proofs.Lex
end
/- Lexicon: where the parts of a text lie; its parts cut at the equals sign. -/
section
open Go Go.Vm Go.Proofs
namespace Go.Proofs.Lex
/-- Where a part begins. -/
def posN (P:List (List UInt8)):Nat→Nat
  | 0=>0
  | i + 1=>posN P i + ((P.getD i []).length + 1)
theorem drop_cons {α:Type} {P:List α} {i:Nat} {d:α} (h:i < P.length):P.drop i=P.getD i d::P.drop (i + 1):=by
  rw [getD_lt h]
  exact List.drop_eq_getElem_cons h
/-- A part of a text. -/
theorem part_of {d:List UInt8} {x:List UInt8} {r:List (List UInt8)} (h:spl d=x::r):idxB 32 d=x.length∧x=d.take x.length∧(r=[]→x=d)∧(r ≠ []→x.length < d.length∧spl (d.drop (x.length + 1))=r):=by
  rw [spl_idx] at h
  have hle:=idxB_le 32 d
  split at h
  · rename_i hk
    simp only [List.cons.injEq] at h
    obtain ⟨rfl,rfl⟩:=h
    have e:(d.take (idxB 32 d)).length=idxB 32 d:=by rw [List.length_take]; omega
    rw [e]
    exact ⟨rfl,rfl,fun h0=>absurd h0 (spl_ne _),fun _=>⟨hk,rfl⟩⟩
  · rename_i hk
    simp only [List.cons.injEq] at h
    obtain ⟨rfl,rfl⟩:=h
    refine ⟨by omega,by rw [List.take_length],fun _=>rfl,fun h0=>absurd rfl h0⟩
theorem pos_spl (l:List UInt8):∀ i,i < (spl l).length→posN (spl l) i ≤ l.length∧spl (l.drop (posN (spl l) i))=(spl l).drop i
  | 0,_=>⟨Nat.zero_le _,by rw [posN,List.drop_zero,List.drop_zero]⟩
  | i + 1, h => by
    obtain ⟨h1,h2⟩:=pos_spl l i (by omega)
    rw [drop_cons (d:=[]) (show i < (spl l).length by omega)] at h2
    obtain ⟨-,-,-,h6⟩:=part_of h2
    obtain ⟨h7, h8⟩ := h6 (by
      intro h0
      have:=congrArg List.length h0
      rw [List.length_drop,List.length_nil] at this
      omega)
    rw [List.length_drop] at h7
    refine ⟨by unfold posN; omega,?_⟩
    rw [List.drop_drop] at h8
    unfold posN
    exact h8
theorem part_at {l:List UInt8} {i:Nat} (h:i < (spl l).length):idxB 32 (l.drop (posN (spl l) i))=((spl l).getD i []).length∧(spl l).getD i []=(l.drop (posN (spl l) i)).take ((spl l).getD i []).length:=by
  obtain ⟨-,h2⟩:=pos_spl l i h
  rw [drop_cons (d:=[]) h] at h2
  obtain ⟨h3,h4,-,-⟩:=part_of h2
  exact ⟨h3,h4⟩
theorem part_end {l:List UInt8} {i:Nat} (h:i < (spl l).length):posN (spl l) i + ((spl l).getD i []).length ≤ l.length:=by
  obtain ⟨h1,-⟩:=pos_spl l i h
  obtain ⟨h3,-⟩:=part_at h
  have:=idxB_le 32 (l.drop (posN (spl l) i))
  rw [List.length_drop] at this
  omega
theorem pos_last (l:List UInt8):posN (spl l) (spl l).length=l.length + 1:=by
  have hpos:0 < (spl l).length:=List.length_pos_iff.2 (spl_ne l)
  obtain ⟨i,hi⟩:∃ i,(spl l).length=i + 1:=⟨(spl l).length - 1,by omega⟩
  obtain ⟨h1,h2⟩:=pos_spl l i (by omega)
  rw [drop_cons (d:=[]) (show i < (spl l).length by omega)] at h2
  obtain ⟨-,-,h5,-⟩:=part_of h2
  have h6:=h5 (List.drop_eq_nil_of_le (by omega))
  have h7:=congrArg List.length h6
  rw [List.length_drop] at h7
  rw [hi]
  unfold posN
  omega
theorem idxB_append (c:UInt8):∀ (a b:List UInt8),idxB c (a ++ b)=if idxB c a < a.length then idxB c a else a.length + idxB c b
  | [],b=>by simp
  | x :: a, b => by
    rw [List.cons_append,idxB_cons,idxB_cons]
    by_cases h:x=c
    · rw [if_pos h,if_pos h,if_pos (by rw [List.length_cons]; omega)]
    · rw [if_neg h, if_neg h, idxB_append c a b, List.length_cons]
      by_cases h2:idxB c a < a.length
      · rw [if_pos h2,if_pos (by omega)]
      · rw [if_neg h2, if_neg (by omega)]
        omega
/-- Where the equals sign of a part lies. -/
theorem eq_at {l:List UInt8} {i:Nat} (h:i < (spl l).length):(idxB 61 ((spl l).getD i []) < ((spl l).getD i []).length→idxB 61 (l.drop (posN (spl l) i))=idxB 61 ((spl l).getD i []))∧(¬ idxB 61 ((spl l).getD i []) < ((spl l).getD i []).length→((spl l).getD i []).length ≤ idxB 61 (l.drop (posN (spl l) i))):=by
  obtain ⟨-,h4⟩:=part_at h
  have e : l.drop (posN (spl l) i) = (spl l).getD i [] ++ (l.drop (posN (spl l) i)).drop ((spl l).getD i []).length := by
    conv=>lhs; rw [← List.take_append_drop ((spl l).getD i []).length (l.drop (posN (spl l) i))]
    rw [← h4]
  refine ⟨fun h5 => ?_,fun h5 => ?_⟩
  · rw [e,idxB_append,if_pos h5]
  · rw [e, idxB_append, if_neg h5]
    omega
def eqL (p:List UInt8):Bool:=decide (idxB 61 p < p.length)
def featL (p:List UInt8):Feat:=⟨mkB (p.take (idxB 61 p)),mkB (p.drop (idxB 61 p + 1))⟩
theorem index_idx (c:UInt8):∀ (l:List UInt8),Lib.index l [c]=if idxB c l < l.length then (idxB c l:Int) else -1
  | []=>by rw [index_nil]; rfl
  | b :: l => by
    rw [index_cons,idxB_cons,index_idx c l,List.length_cons]
    by_cases h:b=c
    · rw [if_pos h,if_pos h,if_pos (by omega)]; rfl
    · rw [if_neg h, if_neg h]
      by_cases h2:idxB c l < l.length
      · have h3 : idxB c l + 1 < l.length + 1 := by omega
        have h4 : ¬ (((idxB c l:Int) == -1)=true):=by simp
        simp only [if_pos h2,if_pos h3,if_neg h4]
        omega
      · have h3 : ¬ idxB c l + 1 < l.length + 1 := by omega
        simp only [if_neg h2,if_neg h3]
        rfl
theorem cut_idx (p:List UInt8):Lib.cut p [61]=if idxB 61 p < p.length then (p.take (idxB 61 p),p.drop (idxB 61 p + 1),true) else (p,[],false):=by
  unfold Lib.cut
  rw [index_idx]
  by_cases h:idxB 61 p < p.length
  · rw [if_pos h, if_pos h]
    simp
  · rw [if_neg h, if_neg h]
    simp
end Go.Proofs.Lex
end
/- Lexicon: the reference's Parse of a record. -/
section
open Go Go.Vm Go.Proofs
namespace Go.Proofs.Lex
/-! ### the parts' text -/
theorem join_snoc (sep x:List UInt8):∀ (r:List (List UInt8)),r ≠ []→Lib.join (r ++ [x]) sep=Lib.join r sep ++ sep ++ x
  | [],h=>absurd rfl h
  | [a],_=>by simp [Lib.join,List.intercalate,List.intersperse]
  | a :: b :: r, _ => by
    have ih:=join_snoc sep x (b::r) (by simp)
    unfold Lib.join List.intercalate at *
    simp only [List.cons_append,List.intersperse_cons_cons,List.flatten_cons,List.append_assoc] at *
    rw [ih]
theorem feat_text {p:List UInt8} (h:eqL p=true):(featL p).name.data.toList ++ [61] ++ (featL p).value.data.toList=p:=by
  have hk:=of_decide_eq_true h
  show p.take (idxB 61 p) ++ [61] ++ p.drop (idxB 61 p + 1)=p
  have e : p.drop (idxB 61 p) = 61 :: p.drop (idxB 61 p + 1) := by
    rw [List.drop_eq_getElem_cons hk,idxB_at hk]
  conv=>rhs; rw [← List.take_append_drop (idxB 61 p) p,e]
  simp
theorem nF_map {P:List (List UInt8)} {i:Nat} (h:i < P.length):nF (P.map featL) i=featL (P.getD i []):=by
  rw [nF,getD_lt (by rw [List.length_map]; exact h),List.getElem_map,getD_lt h]
theorem textN_join {P:List (List UInt8)} (h:P.all eqL=true):∀ i,i ≤ P.length→textN (P.map featL) i=Lib.join (P.take i) [32]
  | 0,_=>by rw [List.take_zero]; rfl
  | i + 1, hi => by
    have ih:=textN_join h i (by omega)
    have hp:eqL (P.getD i [])=true:=by rw [getD_lt hi]; exact List.all_eq_true.1 h _ (List.getElem_mem _)
    have ht:=feat_text hp
    have hs:P.take (i + 1)=P.take i ++ [P.getD i []]:=by rw [List.take_succ_eq_append_getElem hi,getD_lt hi]
    show ((cond (decide (0 < i)) (textN (P.map featL) i ++ [32]) [] ++ (nF (P.map featL) i).name.data.toList) ++ [61]) ++ (nF (P.map featL) i).value.data.toList=_
    rw [nF_map hi,hs,List.append_assoc,List.append_assoc,← List.append_assoc (featL _).name.data.toList,ht]
    cases i with
    | zero=>simp [Lib.join,List.intercalate,List.intersperse]
    | succ i =>
      rw [join_snoc _ _ _ (by intro h0; have:=congrArg List.length h0; rw [List.length_take,List.length_nil] at this; omega),← ih]
      simp
theorem textF_join {P:List (List UInt8)} (h:P.all eqL=true):textF (P.map featL)=Lib.join P [32]:=by
  unfold textF
  rw [List.length_map,textN_join h P.length (Nat.le_refl _),List.take_length]
/-! ### the record of a text -/
def parseB (s:ByteArray):List Feat × Bool:=match parseF s with
  | some F=>(F,true)
  | none=>([],false)
theorem split_mk (s:ByteArray):splitL s blank=(spl s.data.toList).map mkB:=by
  rw [← split_spl,List.map_map]
  have:(mkB ∘ fun x:ByteArray=>x.data.toList)=id:=by funext x; exact mkB_self x
  rw [this,List.map_id]
theorem cutB_mk (p:List UInt8):cutB (mkB p)=eqL p:=by
  unfold cutB cutB3
  rw [mkB_data,cut_idx]
  unfold eqL
  by_cases h:idxB 61 p < p.length
  · rw [if_pos h,decide_eq_true h]
  · rw [if_neg h,decide_eq_false h]
theorem featOf_mk {p:List UInt8} (h:eqL p=true):featOf (mkB p)=featL p:=by
  have hk:=of_decide_eq_true h
  unfold featOf cutB3
  rw [mkB_data,cut_idx,if_pos hk]
  rfl
theorem all_mk (P:List (List UInt8)):(P.map mkB).all cutB=P.all eqL:=by
  rw [List.all_map]
  congr 1
  funext p
  exact cutB_mk p
theorem feats_mk {P:List (List UInt8)} (h:P.all eqL=true):featsOf (P.map mkB)=P.map featL:=by
  unfold featsOf
  rw [List.map_map]
  refine List.map_congr_left fun p hp=>featOf_mk (List.all_eq_true.1 h p hp)
theorem parseF_spl (s:ByteArray) (h:s ≠ emp):parseF s=if (spl s.data.toList).all eqL=true∧validF ((spl s.data.toList).map featL)=true then some ((spl s.data.toList).map featL) else none:=by
  unfold parseF partsF
  rw [if_neg h,split_mk,all_mk,List.length_map]
  by_cases ha:(spl s.data.toList).all eqL=true
  · rw [feats_mk ha]
    by_cases hv:validF ((spl s.data.toList).map featL)=true
    · have h8 : (spl s.data.toList).length ≤ 8 := by
        unfold validF at hv
        simp only [Bool.and_eq_true,decide_eq_true_eq,List.length_map] at hv
        exact hv.2.2
      rw [if_pos ⟨ha,h8,hv⟩,if_pos ⟨ha,hv⟩]
    · rw [if_neg (fun k=>hv k.2.2),if_neg (fun k=>hv k.2)]
  · rw [if_neg (fun k=>ha k.1),if_neg (fun k=>ha k.1)]
end Go.Proofs.Lex
end
/- Lexicon: the reference's Parse of a record, walked. -/
section
open Go Go.Vm Go.Proofs
namespace Go.Proofs.Lex
abbrev clip2:AV := .list .clip 0 2 []
section
variable [Fixed] {X:Ext}
abbrev aFsB:Arg (List Feat × Bool):=Arg.tup2 aFs aB
def untilS:List AV→Option AV:=fun vs=>match vs with
  | [.str s,.int .i64 n,.int .u8 c]=>if 0 ≤ n∧n.toNat ≤ s.size∧s.size ≤ big then (if c=32 then some (i6 (untilF s n.toNat 32:Int)) else if c=61 then some (i6 (untilF s n.toNat 61:Int)) else none) else none
  | _=>none
def okX (F:List Feat):Prop:=F.length ≤ big∧(textF F).length ≤ big
instance:DecidablePred okX:=fun F=>inferInstanceAs (Decidable (_∧_))
def V59:Go.Vm.Spec:=((Go.Vm.Spec.on (fun _ _=>none) 50 (s1 aFs aB validF okF)).on 52 (s1 aFs aS (fun F=>mkB (textF F)) okX)).on 86 untilS
theorem V59_ok (hX:ExtOk Tryd.prog X) (hL:XL X):SpecOk Tryd.prog V59:=by
  refine SpecOk.on (SpecOk.s1 (SpecOk.s1 SpecOk.none' fun F h=>call50 hX hL h) fun F h=>call52 hX hL h.1 h.2) fun vs r h => ?_
  unfold untilS at h
  split at h
  · rename_i s n c
    split at h
    · rename_i hh
      obtain ⟨h0,h1,h2⟩:=hh
      obtain ⟨k,e⟩:=Int.eq_ofNat_of_zero_le h0
      subst e
      have h1' : k ≤ s.size:=h1
      split at h
      · rename_i hc
        subst hc
        simp only [Option.some.injEq] at h
        subst h
        exact call86 (c:=32) hX hL h2 h1'
      · split at h
        · rename_i hc
          subst hc
          simp only [Option.some.injEq] at h
          subst h
          exact call86 (c:=61) hX hL h2 h1'
        · cases h
    · cases h
  · cases h
theorem v86 (hL:XL X) {s:ByteArray} {n:Nat} (hs:s.size ≤ big) (hn:n ≤ s.size) (σ:List Ob):callv X (callerOf V59) false 86 [st s,i6 (n:Int),.int .u8 32] σ 0=some (i6 (untilF s n 32:Int),σ)∧callv X (callerOf V59) false 86 [st s,i6 (n:Int),.int .u8 61] σ 0=some (i6 (untilF s n 61:Int),σ):=by
  obtain ⟨a1,a2,a3⟩:=hL.ok 86 rfl
  have hc:0 ≤ (n:Int)∧(n:Int).toNat ≤ s.size∧s.size ≤ big:=⟨by omega,by simpa using hn,hs⟩
  refine ⟨call_on (B:=aI) (y:=(untilF s n 32:Int)) (T:=V59) a1 a2 a3 rfl ?_,call_on (B:=aI) (y:=(untilF s n 61:Int)) (T:=V59) a1 a2 a3 rfl ?_⟩
  · show untilS [.str s, .int .i64 (n : Int), .int .u8 32] = _
    unfold untilS
    simp only [if_pos hc,if_true]
    rfl
  · show untilS [.str s, .int .i64 (n : Int), .int .u8 61] = _
    unfold untilS
    simp only [if_pos hc]
    rfl
theorem len_clip {σ:List Ob} (n:Nat):keep σ (lenv Tryd.prog 31 σ (grV clip2 0 n))=some (i6 n,σ):=by
  unfold lenv
  rw [Tryd.underlying31]
  by_cases h:n=0
  · subst h; rfl
  · rw [grV,if_neg h]; rfl
/-- A row of the call's own, given to two functions, and returned. -/
theorem row_two {F:List Feat} {b:Bool} (hL:XL X) (h50:okF F) (hb:validF F=b):∃ σ',callv X (callerOf V59) false 50 [grV clip2 0 F.length] (grS cF [] F) 0=some (bo b,σ') ∧
    (okX F→callv X (callerOf V59) false 52 [grV clip2 0 F.length] σ' 0=some (st (mkB (textF F)),σ'))∧∃ r σ'',vend1 [] 0 σ' [grV clip2 0 F.length,bo true]=some (r,σ'')∧aFsB.dec r=some (F,true):=by
  obtain ⟨a1,a2,a3⟩:=hL.ok 50 rfl
  obtain ⟨d1,d2,d3⟩:=hL.ok 52 rfl
  by_cases hF:F.length=0
  · have hF' : F = [] := List.eq_nil_of_length_eq_zero hF
    subst hF'
    refine ⟨[],?_,fun hx => ?_,_,_,rfl,rfl⟩
    · have := call_on (X := X) (B := aB) (y := validF []) (T := V59) (vs := [clip2]) (σ := []) (ro := 0) (dr := false) a1 a2 a3 rfl (by
        show sp1 aFs (fun F=>if okF F then some (aB.enc (validF F)) else none) [clip2]=_
        rw [sp1_at (x:=[]) rfl,if_pos h50])
      rw [hb] at this
      exact this
    · exact call_on (X := X) (B := aS) (y := mkB (textF [])) (T := V59) (vs := [clip2]) (σ := []) (ro := 0) (dr := false) d1 d2 d3 rfl (by
        show sp1 aFs (fun F=>if okX F then some (aS.enc (mkB (textF F))) else none) [clip2]=_
        rw [sp1_at (x:=[]) rfl,if_pos hx])
  · have hg : grS cF [] F = [.arr F.length 2 (F.flatMap featC)] := by rw [grS, if_neg hF]; rfl
    have hv:grV clip2 0 F.length = .own 0 F.length:=if_neg hF
    rw [hg,hv]
    have hlt : AV.ltAll 0 [featsV F] = true := by
      have:=aFs.lt F
      rw [aFs_enc] at this
      simp only [AV.ltAll,this,Bool.and_self]
    have hn:AV.ltAll 0 [AV.own 0 F.length]=false:=by simp [AV.ltAll,AV.lt,show Nat.blt 0 0=false from rfl]
    have ht:AV.thawAll [Ob.arr F.length 2 (F.flatMap featC)] [.own 0 F.length]=some [featsV F]:=by simp [AV.thawAll,AV.thaw,featsV]
    have ht2:AV.thawAll [Ob.fro F.length 2 (F.flatMap featC)] [.own 0 F.length]=some [featsV F]:=by simp [AV.thawAll,AV.thaw,featsV]
    have hfz:freezeIds 0 [Ob.arr F.length 2 (F.flatMap featC)] (AV.ownsAll [.own 0 F.length])=some [.fro F.length 2 (F.flatMap featC)]:=by simp [AV.ownsAll,AV.owns,freezeIds,freezeId,setOb]
    have hfz2:freezeIds 0 [Ob.fro F.length 2 (F.flatMap featC)] (AV.ownsAll [.own 0 F.length])=some [.fro F.length 2 (F.flatMap featC)]:=by simp [AV.ownsAll,AV.owns,freezeIds,freezeId]
    have s50 : V59 50 [featsV F] = some (bo b) := by
      rw [← hb]
      exact s1_at (A:=aFs) (B:=aB) (g:=validF) (ok:=okF) h50
    refine ⟨[.fro F.length 2 (F.flatMap featC)],?_,fun hx => ?_,.tup [featsV F,bo true],[.fro F.length 2 (F.flatMap featC)],?_,?_⟩
    · unfold callv
      rw [a1,a2]
      simp only [hn,Bool.false_eq_true,if_false,ht,hlt,if_true,hfz,callerOf,s50,AV.pure,AV.lt,a3]
      rfl
    · have s52 : V59 52 [featsV F] = some (st (mkB (textF F))) := s1_at (A := aFs) (B := aS) (g := fun F => mkB (textF F)) (ok := okX) hx
      unfold callv
      rw [d1,d2]
      simp only [hn,Bool.false_eq_true,if_false,ht2,hlt,if_true,hfz2,callerOf,s52,AV.pure,AV.lt,d3]
      rfl
    · simp [vend1,AV.thawAll,AV.thaw,AV.ownsAll,AV.owns,freezeIds,freezeId,resOf,oneOf,unfr,unfr1,featsV]
    · exact aFsB.de (F,true)
theorem spl_len (s:ByteArray):(spl s.data.toList).length ≤ s.size + 1:=by
  have:=split_len (s:=s)
  rwa [split_mk,List.length_map] at this
theorem spl_le {s:ByteArray} {p:List UInt8} (h:p ∈ spl s.data.toList):p.length ≤ s.size:=by
  have:=split_le (s:=s) (p:=mkB p) (by rw [split_mk]; exact List.mem_map.2 ⟨p,h,rfl⟩)
  rwa [size_list,mkB_data] at this
theorem okF_spl {s:ByteArray} (hs:(s.size + 1) * 33 ≤ big) (n:Nat):okF (((spl s.data.toList).take n).map featL):=by
  have hs' : (s.size + 1) * 33 ≤ 140737488355328:=hs
  have hl:=spl_len s
  refine ⟨?_,fun f hf => ?_⟩
  · rw [List.length_map, List.length_take]
    show _ ≤ 140737488355328
    omega
  · obtain ⟨p, hp, rfl⟩ := List.mem_map.1 hf
    have:=spl_le (List.mem_of_mem_take hp)
    refine ⟨?_,?_⟩
    · show (mkB (p.take _)).size ≤ 140737488355328
      rw [size_list,mkB_data,List.length_take]
      omega
    · show (mkB (p.drop _)).size ≤ 140737488355328
      rw [size_list,mkB_data,List.length_drop]
      omega
theorem emp_test {s:ByteArray} (h:s ≠ emp):(!s.toList == (ByteArray.mk #[]).toList)=true:=by
  rw [show (s.toList == (ByteArray.mk #[]).toList)=false from eqB_ne.2 h]
  rfl
theorem eq_test {s t:ByteArray} (h:s=t):(!s.toList == t.toList)=false:=by
  rw [show (s.toList == t.toList)=true from eqB_iff.2 h]
  rfl
theorem cut_name {l p:List UInt8} {a k:Nat} (hp:p=(l.drop a).take p.length) (hk:k ≤ p.length):(l.take (a + k)).drop a=p.take k:=by
  have e1 : (l.take (a + k)).drop a = (l.drop a).take k := by
    rw [List.drop_take]
    congr 1
    omega
  have:=congrArg (List.take k) hp
  rw [List.take_take,Nat.min_eq_left hk] at this
  rw [e1]
  exact this.symm
theorem cut_value {l p:List UInt8} {a k:Nat} (hp:p=(l.drop a).take p.length):(l.take (a + p.length)).drop (a + k)=p.drop k:=by
  rw [← List.drop_drop,cut_name hp (Nat.le_refl _),List.take_length]
/-- ref02.Parse. -/
theorem call59 (hX:ExtOk Tryd.prog X) (hL:XL X) {s:ByteArray} (hs:(s.size + 1) * 33 ≤ big):CallAt Tryd.prog 59 [aS.enc s] [] 0 (aFsB.enc (parseB s)) []:=by
  have hs' : (s.size + 1) * 33 ≤ 140737488355328:=hs
  have hsb:s.size ≤ big:=by show _ ≤ 140737488355328; omega
  have hC:=callerOf_ok (V59_ok hX hL)
  have hsl:=size_list s
  have hb59:Tryd.f59.body=some (codeOf Tryd.f59):=by kernel_rfl
  obtain ⟨P,hP⟩:∃ P,spl s.data.toList=P:=⟨_,rfl⟩
  let n5:Nat→Int:=fun i=>(posN P i:Int)
  let o4:Nat→AV:=fun i=>grV clip2 0 ((P.take i).map featL).length
  let S0:Nat→List Ob:=fun i=>grS cF [] ((P.take i).map featL)
  by_cases he:s=emp
  · subst he
    have hr0:=f59_r0_f emp n5 o4 S0 X (callerOf V59) 1 0 (eq_test rfl)
    have l0:=f59_L0 emp n5 o4 S0 X (callerOf V59) 1 0 _ _ rfl rfl rfl (by omega) (fun j hj=>absurd hj (Nat.not_lt_zero _)) hr0 (by simp)
    obtain ⟨σ',c50,c52,r,σ'',hv,hd⟩:=row_two (X:=X) (F:=[]) (b:=true) hL ⟨Nat.zero_le _,fun f hf=>by simp at hf⟩ rfl
    have c52' := c52 ⟨Nat.zero_le _,Nat.zero_le _⟩
    have hpb:parseB emp=([],true):=by unfold parseB parseF; rw [if_pos rfl]
    rw [hpb]
    exact run_res (B:=aFsB) hX hC (hL.dom 59 rfl rfl) Tryd.func59 hb59 (f59_plfff emp n5 o4 S0 true σ' X (callerOf V59) 1 0 (mkB (textF [])) r σ'' l0 c50 rfl c52' (eq_test rfl) hv) hd
  · have hne := emp_test he
    have hPl:P.length ≤ s.size + 1:=by rw [← hP]; exact spl_len s
    have hlen:∀ i,i ≤ P.length→((P.take i).map featL).length=i:=fun i hi=>by rw [List.length_map,List.length_take]; omega
    have hpos : ∀ i, i < P.length → posN P i ≤ s.size := fun i hi => by
      have:=(pos_spl s.data.toList i (by rw [hP]; exact hi)).1
      rw [hP] at this
      omega
    have hend : ∀ i, i < P.length → posN P i + (P.getD i []).length ≤ s.size := fun i hi => by
      have:=part_end (l:=s.data.toList) (i:=i) (by rw [hP]; exact hi)
      rw [hP] at this
      omega
    have hat : ∀ i, i < P.length → idxB 32 (s.data.toList.drop (posN P i)) = (P.getD i []).length ∧ P.getD i [] = (s.data.toList.drop (posN P i)).take (P.getD i []).length := fun i hi => by
      have:=part_at (l:=s.data.toList) (i:=i) (by rw [hP]; exact hi)
      rw [hP] at this
      exact this
    have heq : ∀ i, i < P.length → (idxB 61 (P.getD i []) < (P.getD i []).length → idxB 61 (s.data.toList.drop (posN P i)) = idxB 61 (P.getD i [])) ∧ (¬ idxB 61 (P.getD i []) < (P.getD i []).length → (P.getD i []).length ≤ idxB 61 (s.data.toList.drop (posN P i))) := fun i hi => by
      have:=eq_at (l:=s.data.toList) (i:=i) (by rw [hP]; exact hi)
      rw [hP] at this
      exact this
    have hd1:∀ i,i < P.length→decide (n5 i ≤ (s.size:Int))=true:=fun i hi=>decide_eq_true (by have:=hpos i hi; show (posN P i:Int) ≤ _; omega)
    have u32:∀ i,i < P.length→untilF s (posN P i) 32=posN P i + (P.getD i []).length:=fun i hi=>by unfold untilF; rw [(hat i hi).1]
    have c86:=fun i (hi:i < P.length)=>v86 (X:=X) hL hsb (hpos i hi) (S0 i)
    -- one part more
    have step : ∀ i, i < P.length → eqL (P.getD i []) = true → i ≤ 8 → ∃ Sx, vexec Tryd.prog X (callerOf V59) (P.length + 1) 0 fg59 (loopN Tryd.f59 0) (f59_F0 s n5 o4 S0 i) = some (.normal, Sx) ∧ forget f59_D0 Sx = f59_F0 s n5 o4 S0 (i + 1) := by
      intro i hi hq h8
      have hk:=of_decide_eq_true hq
      have u61:untilF s (posN P i) 61=posN P i + idxB 61 (P.getD i []):=by unfold untilF; rw [(heq i hi).1 hk]
      have hE:=hend i hi
      have hst:(P.take (i + 1)).map featL=(P.take i).map featL ++ [featL (P.getD i [])]:=by rw [List.take_succ_eq_append_getElem hi,List.map_append,getD_lt hi]; rfl
      have hg := gr_step (σ0 := []) (A := cF) (l := (P.take i).map featL) (m := [featL (P.getD i [])]) (lk := .clip) (sz0 := 2) rowF (.inr rfl) (appended_row (lk := .clip) [featL (P.getD i [])]) (by
        show (((P.take i).map featL).length + 1) * 33 ≤ 140737488355328
        rw [hlen i (by omega)]
        omega)
      rw [← hst] at hg
      have e1:=(hat i hi).2
      have hname:mkB ((s.data.toList.take (posN P i + idxB 61 (P.getD i []))).drop (posN P i))=(featL (P.getD i [])).name:=by rw [cut_name e1 (Nat.le_of_lt hk)]; rfl
      have hvalue:mkB ((s.data.toList.take (posN P i + (P.getD i []).length)).drop (posN P i + idxB 61 (P.getD i []) + 1))=(featL (P.getD i [])).value:=by rw [Nat.add_assoc,cut_value e1]; rfl
      have hw:w6 (((posN P i + idxB 61 (P.getD i []):Nat):Int) + 1)=((posN P i + idxB 61 (P.getD i []) + 1:Nat):Int):=(up (n:=s.size) (by omega) hsb).symm
      have hw2 : ((posN P (i + 1) : Nat) : Int) = w6 (((posN P i + (P.getD i []).length : Nat) : Int) + 1) := by
        unfold w6
        rw [IntKind.wrap_i64]
        show ((posN P i + ((P.getD i []).length + 1):Nat):Int)=_
        omega
      obtain ⟨c1,c2⟩:=c86 i hi
      rw [u32 i hi] at c1
      rw [u61] at c2
      have h7:=slcM (s:=s) (i:=posN P i) (k:=posN P i + idxB 61 (P.getD i [])) (dr:=true) (σ:=S0 i) (by omega) (by omega)
      rw [hname] at h7
      have h8:=slcM (s:=s) (i:=posN P i + idxB 61 (P.getD i []) + 1) (k:=posN P i + (P.getD i []).length) (dr:=true) (σ:=S0 i) (by omega) (by omega)
      rw [hvalue,← hw] at h8
      have hlv : keep (S0 i) (lenv Tryd.prog 31 (S0 i) (o4 i)) = some (i6 (i : Int), S0 i) := by
        have:=len_clip (σ:=S0 i) ((P.take i).map featL).length
        rw [hlen i (by omega)] at this
        show keep (S0 i) (lenv Tryd.prog 31 (S0 i) (grV clip2 0 ((P.take i).map featL).length))=_
        rw [hlen i (by omega)]
        exact this
      exact f59_s0_ttff s n5 o4 S0 X (callerOf V59) (P.length + 1) i _ _ (i:Int) _ _ _ _ hne (hd1 i hi) c1 c2 (decide_eq_false (by omega)) hlv (decide_eq_false (by omega)) h7 h8 hg rfl hw2 rfl
    have hbd:aFsB.dec (.tup [.list .nil 0 0 [],bo false])=some ([],false):=by rfl
    have none_of:parseF s=none→parseB s=([],false):=fun h=>by unfold parseB; rw [h]
    have hps:=parseF_spl s he
    rw [hP] at hps
    rcases first_fail (p:=fun i=>eqL (P.getD i [])=true∧i ≤ 8) P.length with hall | ⟨k,hk,hbad,hbef⟩
    · have hae : P.all eqL = true := List.all_eq_true.2 fun p hp => by
        obtain ⟨i,hi,e⟩:=List.getElem_of_mem hp
        have:=(hall i hi).1
        rw [getD_lt hi,e] at this
        exact this
      have hlast : posN P P.length = s.size + 1 := by
        have:=pos_last s.data.toList
        rw [hP,← hsl] at this
        exact this
      have hr0:=f59_r0_tf s n5 o4 S0 X (callerOf V59) (P.length + 1) P.length hne (decide_eq_false (by show ¬ ((posN P P.length:Nat):Int) ≤ _; rw [hlast]; omega))
      have l0:=f59_L0 s n5 o4 S0 X (callerOf V59) (P.length + 1) P.length _ _ rfl rfl rfl (Nat.lt_succ_self _) (fun j hj=>step j hj (hall j hj).1 (hall j hj).2) hr0 (by simp)
      have hfull:(P.take P.length).map featL=P.map featL:=by rw [List.take_length]
      have hok : okF (P.map featL) := by
        have:=okF_spl hs P.length
        rwa [hP,hfull] at this
      have htx:textF (P.map featL)=s.data.toList:=by rw [textF_join hae,← hP,join_spl]
      have hx:okX (P.map featL):=⟨hok.1,by rw [htx,← hsl]; exact hsb⟩
      obtain ⟨σ',c50,c52,r,σ'',hv,hd⟩:=row_two (X:=X) (F:=P.map featL) (b:=validF (P.map featL)) hL hok rfl
      have c52' := c52 hx
      have ho4:o4 P.length=grV clip2 0 (P.map featL).length:=by show grV clip2 0 ((P.take P.length).map featL).length=_; rw [hfull]
      have hS0:S0 P.length=grS cF [] (P.map featL):=by show grS cF [] ((P.take P.length).map featL)=_; rw [hfull]
      rw [← ho4] at c52' hv
      rw [← ho4,← hS0] at c50
      cases hvv:validF (P.map featL) with
      | true =>
        rw [hvv] at c50
        have hpb : parseB s = (P.map featL, true) := by
          unfold parseB
          rw [hps,if_pos ⟨hae,hvv⟩]
        rw [hpb]
        exact run_res (B:=aFsB) hX hC (hL.dom 59 rfl rfl) Tryd.func59 hb59 (f59_pltfff s n5 o4 S0 true σ' X (callerOf V59) (P.length + 1) P.length _ r σ'' l0 c50 rfl c52' (eq_test (by rw [htx,mkB_self])) hv) hd
      | false =>
        rw [hvv] at c50
        rw [none_of (by rw [hps,if_neg (fun k=>by rw [hvv] at k; cases k.2)])]
        exact run_res (B:=aFsB) hX hC (hL.dom 59 rfl rfl) Tryd.func59 hb59 (f59_pltft s n5 o4 S0 false σ' X (callerOf V59) (P.length + 1) P.length l0 c50 rfl) hbd
    · obtain ⟨c1, c2⟩ := c86 k hk
      rw [u32 k hk] at c1
      have hE:=hend k hk
      by_cases hq:eqL (P.getD k [])=true
      · have hk8 : 8 < k := by
          by_cases h:k ≤ 8
          · exact absurd ⟨hq,h⟩ hbad
          · omega
        have hkk:=of_decide_eq_true hq
        have u61:untilF s (posN P k) 61=posN P k + idxB 61 (P.getD k []):=by unfold untilF; rw [(heq k hk).1 hkk]
        rw [u61] at c2
        have hlv : keep (S0 k) (lenv Tryd.prog 31 (S0 k) (o4 k)) = some (i6 (k : Int), S0 k) := by
          have:=len_clip (σ:=S0 k) ((P.take k).map featL).length
          rw [hlen k (by omega)] at this
          show keep (S0 k) (lenv Tryd.prog 31 (S0 k) (grV clip2 0 ((P.take k).map featL).length))=_
          rw [hlen k (by omega)]
          exact this
        have hr0:=f59_r0_ttft s n5 o4 S0 X (callerOf V59) (P.length + 1) k _ _ (k:Int) hne (hd1 k hk) c1 c2 (decide_eq_false (by omega)) hlv (decide_eq_true (by omega))
        have l0:=f59_L0 s n5 o4 S0 X (callerOf V59) (P.length + 1) k _ _ rfl rfl rfl (by omega) (fun j hj=>step j (by omega) (hbef j hj).1 (hbef j hj).2) hr0 (by simp)
        rw [none_of (by
          rw [hps,if_neg]
          intro h
          have h8:=h.2
          unfold validF at h8
          simp only [Bool.and_eq_true,decide_eq_true_eq,List.length_map] at h8
          omega)]
        exact run_res (B:=aFsB) hX hC (hL.dom 59 rfl rfl) Tryd.func59 hb59 (f59_plttft s n5 o4 S0 X (callerOf V59) (P.length + 1) k _ _ _ l0) hbd
      · have hnk : ¬ idxB 61 (P.getD k []) < (P.getD k []).length := fun h => hq (decide_eq_true h)
        have h61 : posN P k + (P.getD k []).length ≤ untilF s (posN P k) 61 := by
          unfold untilF
          have:=(heq k hk).2 hnk
          omega
        have hr0:=f59_r0_ttt s n5 o4 S0 X (callerOf V59) (P.length + 1) k _ _ hne (hd1 k hk) c1 c2 (decide_eq_true (by omega))
        have l0:=f59_L0 s n5 o4 S0 X (callerOf V59) (P.length + 1) k _ _ rfl rfl rfl (by omega) (fun j hj=>step j (by omega) (hbef j hj).1 (hbef j hj).2) hr0 (by simp)
        rw [none_of (by
          rw [hps,if_neg]
          intro h
          have:=List.all_eq_true.1 h.1 (P.getD k []) (by rw [getD_lt hk]; exact List.getElem_mem hk)
          exact hq this)]
        exact run_res (B:=aFsB) hX hC (hL.dom 59 rfl rfl) Tryd.func59 hb59 (f59_plttt s n5 o4 S0 X (callerOf V59) (P.length + 1) k _ _ l0) hbd
end
end Go.Proofs.Lex
end
/- Lexicon: the reference lines and the law of inverses, walked (printed) -/
section
open Go Go.Vm Go.Proofs
namespace Go.Proofs.Lex
def fg22:Nat→List Nat
  | 2=>[5,6,7,8]
  | 4=>[12,13,14,15,16,17,18,19,20,21,22]
  | 6=>[24,25,26,27,28,29,30,31,32,33,34,35,36,37,38,39,40,41,42,43,44,45,46,47,48,49,50,51,52,53,54,55,56,57,58,59]
  | 8=>[61,62,63,64,65,66,67,68,69,70,71,72,73,74,75,76]
  | 9=>[77,78,79]
  | 10=>[81,82,83,84,85,86]
  | _=>[]
def f22_F0 (x0:Lexm)(i0:Nat):St :=
  stOf 88 [2,5,6,7,8,9,10,11,12,13,14,15,16,17,18,19,20,21,22,23] [(0,AV.agg [st (Lexm.id x0),st (Lexm.cat x0),st (Lexm.stem x0),st (Lexm.par x0),lro (List.length (Lexm.feats x0)) 2 (List.flatMap featC (Lexm.feats x0))]),(1,AV.ref 0 0),(3,i6 (↑i0:Int))] [Ob.cells [st (Lexm.id x0),st (Lexm.cat x0),st (Lexm.stem x0),st (Lexm.par x0),lro (List.length (Lexm.feats x0)) 2 (List.flatMap featC (Lexm.feats x0))]]
def f22_S0 (x0:Lexm):St :=
  stOf 88 [] [(0,AV.agg [st (Lexm.id x0),st (Lexm.cat x0),st (Lexm.stem x0),st (Lexm.par x0),lro (List.length (Lexm.feats x0)) 2 (List.flatMap featC (Lexm.feats x0))]),(1,AV.ref 0 0),(2,st (ByteArray.mk #[])),(3,i6 0)] [Ob.cells [st (Lexm.id x0),st (Lexm.cat x0),st (Lexm.stem x0),st (Lexm.par x0),lro (List.length (Lexm.feats x0)) 2 (List.flatMap featC (Lexm.feats x0))]]
abbrev f22_D0:List Nat:=[11,10,2,23,22,21,20,19,18,17,16,15,14,13,12,9,8,7,6,5]
theorem f22_L0 (x0:Lexm)(X:Ext)(call:Caller)(lf n:Nat)(x:Ex) (S' : St)
 (hn:n<lf)
 (hs:∀ j,j<n→∃ Sx,vexec Tryd.prog X call lf 0 fg22 (loopN Tryd.f22 0) (f22_F0 x0 j)=some (Ex.normal,Sx)∧forget f22_D0 Sx=(f22_F0 x0 (j + 1)))
 (he:vexec Tryd.prog X call lf 0 fg22 (loopN Tryd.f22 0) (f22_F0 x0 n)=some (x,S'))
 (hx:x ≠ Ex.normal):vexec Tryd.prog X call lf 0 fg22 (Go.Code.loop (loopN Tryd.f22 0)) (f22_S0 x0)=some (x,S') :=
  loop_runK (by kernel_rfl) (fun j=>(f22_F0 x0 j)) n hn (by show forget f22_D0 (f22_S0 x0)=(f22_F0 x0 0); unfold f22_F0; show _=_; kernel_rfl) hs he hx
def f22_S1 (x0:Lexm)(i0:Nat):St :=
  stOf 88 [5,6,7,8,10,11,12,13,14,15,16,17,18,19,20,21,22] [(0,AV.agg [st (Lexm.id x0),st (Lexm.cat x0),st (Lexm.stem x0),st (Lexm.par x0),lro (List.length (Lexm.feats x0)) 2 (List.flatMap featC (Lexm.feats x0))]),(1,AV.ref 0 0),(2,st (ByteArray.mk #[])),(3,i6 (↑i0:Int)),(9,bo true),(23,bo true)] [Ob.cells [st (Lexm.id x0),st (Lexm.cat x0),st (Lexm.stem x0),st (Lexm.par x0),lro (List.length (Lexm.feats x0)) 2 (List.flatMap featC (Lexm.feats x0))]]
theorem f22_r0_tt (x0:Lexm)(X:Ext)(call:Caller)(lf i0:Nat)(n15:Int)
 (h0:decide ((↑i0:Int)<(↑(ByteArray.size (Lexm.stem x0)):Int))=true)
 (h1:keep [Ob.cells [st (Lexm.id x0),st (Lexm.cat x0),st (Lexm.stem x0),st (Lexm.par x0),lro (List.length (Lexm.feats x0)) 2 (List.flatMap featC (Lexm.feats x0))]] (indexv Tryd.prog 9 (st (Lexm.stem x0)) (i6 (↑i0:Int)))=some (AV.int IntKind.u8 n15,[Ob.cells [st (Lexm.id x0),st (Lexm.cat x0),st (Lexm.stem x0),st (Lexm.par x0),lro (List.length (Lexm.feats x0)) 2 (List.flatMap featC (Lexm.feats x0))]]))
 (h2:(n15 == 32)=true):vexec Tryd.prog X call lf 0 fg22 (loopN Tryd.f22 0) (f22_F0 x0 i0)=some (Ex.ret,(f22_S1 x0 i0)) :=
  around_sound (ans:=[(5,Ans.b true),(11,Ans.v (AV.int IntKind.u8 n15)),(12,Ans.b true)]) (by kernel_rfl) (ai h0 (ai h1 (ai h2 trivial)))
theorem f22_pltt (x0:Lexm)(X:Ext)(call:Caller)(lf i0:Nat)
 (h0:vexec Tryd.prog X call lf 0 fg22 (Code.loop (loopN Tryd.f22 0)) (f22_S0 x0)=some (Ex.ret,(f22_S1 x0 i0))):vbody Tryd.prog X call lf fg22 Tryd.f22 (codeOf Tryd.f22) [AV.agg (lexC x0)] [] 0=some (st (ByteArray.mk #[]),[Ob.cells [st (Lexm.id x0),st (Lexm.cat x0),st (Lexm.stem x0),st (Lexm.par x0),lro (List.length (Lexm.feats x0)) 2 (List.flatMap featC (Lexm.feats x0))]]) :=
  along_sound (ans:=[(5,Ans.l Ex.ret (f22_S1 x0 i0))]) (by kernel_rfl) (ai h0 trivial)
theorem f22_r0_tft (x0:Lexm)(X:Ext)(call:Caller)(lf i0:Nat)(n15 n21:Int)
 (h0:decide ((↑i0:Int)<(↑(ByteArray.size (Lexm.stem x0)):Int))=true)
 (h1:keep [Ob.cells [st (Lexm.id x0),st (Lexm.cat x0),st (Lexm.stem x0),st (Lexm.par x0),lro (List.length (Lexm.feats x0)) 2 (List.flatMap featC (Lexm.feats x0))]] (indexv Tryd.prog 9 (st (Lexm.stem x0)) (i6 (↑i0:Int)))=some (AV.int IntKind.u8 n15,[Ob.cells [st (Lexm.id x0),st (Lexm.cat x0),st (Lexm.stem x0),st (Lexm.par x0),lro (List.length (Lexm.feats x0)) 2 (List.flatMap featC (Lexm.feats x0))]]))
 (h2:(n15 == 32)=false)
 (h3:keep [Ob.cells [st (Lexm.id x0),st (Lexm.cat x0),st (Lexm.stem x0),st (Lexm.par x0),lro (List.length (Lexm.feats x0)) 2 (List.flatMap featC (Lexm.feats x0))]] (indexv Tryd.prog 9 (st (Lexm.stem x0)) (i6 (↑i0:Int)))=some (AV.int IntKind.u8 n21,[Ob.cells [st (Lexm.id x0),st (Lexm.cat x0),st (Lexm.stem x0),st (Lexm.par x0),lro (List.length (Lexm.feats x0)) 2 (List.flatMap featC (Lexm.feats x0))]]))
 (h4:(n21 == 10)=true):vexec Tryd.prog X call lf 0 fg22 (loopN Tryd.f22 0) (f22_F0 x0 i0)=some (Ex.ret,(f22_S1 x0 i0)) :=
  around_sound (ans:=[(5,Ans.b true),(11,Ans.v (AV.int IntKind.u8 n15)),(12,Ans.b false),(21,Ans.v (AV.int IntKind.u8 n21)),(23,Ans.b true)]) (by kernel_rfl) (ai h0 (ai h1 (ai h2 (ai h3 (ai h4 trivial)))))
theorem f22_pltft (x0:Lexm)(X:Ext)(call:Caller)(lf i0:Nat)
 (h0:vexec Tryd.prog X call lf 0 fg22 (Code.loop (loopN Tryd.f22 0)) (f22_S0 x0)=some (Ex.ret,(f22_S1 x0 i0))):vbody Tryd.prog X call lf fg22 Tryd.f22 (codeOf Tryd.f22) [AV.agg (lexC x0)] [] 0=some (st (ByteArray.mk #[]),[Ob.cells [st (Lexm.id x0),st (Lexm.cat x0),st (Lexm.stem x0),st (Lexm.par x0),lro (List.length (Lexm.feats x0)) 2 (List.flatMap featC (Lexm.feats x0))]]) :=
  along_sound (ans:=[(5,Ans.l Ex.ret (f22_S1 x0 i0))]) (by kernel_rfl) (ai h0 trivial)
theorem f22_s0_tff (x0:Lexm)(X:Ext)(call:Caller)(lf i0:Nat)(n15 n21:Int)
 (h0:decide ((↑i0:Int)<(↑(ByteArray.size (Lexm.stem x0)):Int))=true)
 (h1:keep [Ob.cells [st (Lexm.id x0),st (Lexm.cat x0),st (Lexm.stem x0),st (Lexm.par x0),lro (List.length (Lexm.feats x0)) 2 (List.flatMap featC (Lexm.feats x0))]] (indexv Tryd.prog 9 (st (Lexm.stem x0)) (i6 (↑i0:Int)))=some (AV.int IntKind.u8 n15,[Ob.cells [st (Lexm.id x0),st (Lexm.cat x0),st (Lexm.stem x0),st (Lexm.par x0),lro (List.length (Lexm.feats x0)) 2 (List.flatMap featC (Lexm.feats x0))]]))
 (h2:(n15 == 32)=false)
 (h3:keep [Ob.cells [st (Lexm.id x0),st (Lexm.cat x0),st (Lexm.stem x0),st (Lexm.par x0),lro (List.length (Lexm.feats x0)) 2 (List.flatMap featC (Lexm.feats x0))]] (indexv Tryd.prog 9 (st (Lexm.stem x0)) (i6 (↑i0:Int)))=some (AV.int IntKind.u8 n21,[Ob.cells [st (Lexm.id x0),st (Lexm.cat x0),st (Lexm.stem x0),st (Lexm.par x0),lro (List.length (Lexm.feats x0)) 2 (List.flatMap featC (Lexm.feats x0))]]))
 (h4:(n21 == 10)=false)
 (e0:(↑(i0 + 1):Int)=w6 ((↑i0:Int) + 1)):∃ Sx,vexec Tryd.prog X call lf 0 fg22 (loopN Tryd.f22 0) (f22_F0 x0 i0)=some (Ex.normal,Sx)∧forget f22_D0 Sx=(f22_F0 x0 (i0 + 1)) :=
  ⟨stOf 88 [2,5,6,7,8,12,13,14,15,16,17,18,19,20,21,22] [(0,AV.agg [st (Lexm.id x0),st (Lexm.cat x0),st (Lexm.stem x0),st (Lexm.par x0),lro (List.length (Lexm.feats x0)) 2 (List.flatMap featC (Lexm.feats x0))]),(1,AV.ref 0 0),(3,i6 (w6 ((↑i0:Int) + 1))),(9,bo true),(10,i6 (↑i0:Int)),(11,i6 (w6 ((↑i0:Int) + 1))),(23,bo false)] [Ob.cells [st (Lexm.id x0),st (Lexm.cat x0),st (Lexm.stem x0),st (Lexm.par x0),lro (List.length (Lexm.feats x0)) 2 (List.flatMap featC (Lexm.feats x0))]],around_sound (ans:=[(5,Ans.b true),(11,Ans.v (AV.int IntKind.u8 n15)),(12,Ans.b false),(21,Ans.v (AV.int IntKind.u8 n21)),(23,Ans.b false)]) (by kernel_rfl) (ai h0 (ai h1 (ai h2 (ai h3 (ai h4 trivial))))),by unfold f22_F0; rw [e0]; show _=_; kernel_rfl⟩
def f22_S2 (x0:Lexm)(i0:Nat):St :=
  stOf 88 [2,5,6,7,8,10,11,12,13,14,15,16,17,18,19,20,21,22,23] [(0,AV.agg [st (Lexm.id x0),st (Lexm.cat x0),st (Lexm.stem x0),st (Lexm.par x0),lro (List.length (Lexm.feats x0)) 2 (List.flatMap featC (Lexm.feats x0))]),(1,AV.ref 0 0),(3,i6 (↑i0:Int)),(9,bo false)] [Ob.cells [st (Lexm.id x0),st (Lexm.cat x0),st (Lexm.stem x0),st (Lexm.par x0),lro (List.length (Lexm.feats x0)) 2 (List.flatMap featC (Lexm.feats x0))]]
theorem f22_r0_f (x0:Lexm)(X:Ext)(call:Caller)(lf i0:Nat)
 (h0:decide ((↑i0:Int)<(↑(ByteArray.size (Lexm.stem x0)):Int))=false):vexec Tryd.prog X call lf 0 fg22 (loopN Tryd.f22 0) (f22_F0 x0 i0)=some (Ex.exit 0,(f22_S2 x0 i0)) :=
  around_sound (ans:=[(5,Ans.b false)]) (by kernel_rfl) (ai h0 trivial)
def f22_S3 (x0:Lexm)(i0:Nat):St :=
  stOf 88 [2,5,6,7,8,10,11,12,13,14,15,16,17,18,19,20,21,22,23,24,25,26,27,28,29,30,31,32,33,34,35,36,37,38,39,40,41,42,43,44,45,46,47,48,49,50,51,52,53,54,55,56,57,58,59] [(0,AV.agg [st (Lexm.id x0),st (Lexm.cat x0),st (Lexm.stem x0),st (Lexm.par x0),lro (List.length (Lexm.feats x0)) 2 (List.flatMap featC (Lexm.feats x0))]),(1,AV.ref 0 0),(3,i6 (↑i0:Int)),(9,bo false),(60,bo true)] [Ob.cells [st (Lexm.id x0),st (Lexm.cat x0),st (Lexm.stem x0),st (Lexm.par x0),lro (List.length (Lexm.feats x0)) 2 (List.flatMap featC (Lexm.feats x0))]]
theorem f22_g6_ttt (x0:Lexm)(X:Ext)(call:Caller)(lf i0:Nat)
 (h0:callv X call false 49 [st (Lexm.id x0)] [Ob.cells [st (Lexm.id x0),st (Lexm.cat x0),st (Lexm.stem x0),st (Lexm.par x0),lro (List.length (Lexm.feats x0)) 2 (List.flatMap featC (Lexm.feats x0))]] 0=some (bo true,[Ob.cells [st (Lexm.id x0),st (Lexm.cat x0),st (Lexm.stem x0),st (Lexm.par x0),lro (List.length (Lexm.feats x0)) 2 (List.flatMap featC (Lexm.feats x0))]]))
 (h1:callv X call false 49 [st (Lexm.cat x0)] [Ob.cells [st (Lexm.id x0),st (Lexm.cat x0),st (Lexm.stem x0),st (Lexm.par x0),lro (List.length (Lexm.feats x0)) 2 (List.flatMap featC (Lexm.feats x0))]] 0=some (bo true,[Ob.cells [st (Lexm.id x0),st (Lexm.cat x0),st (Lexm.stem x0),st (Lexm.par x0),lro (List.length (Lexm.feats x0)) 2 (List.flatMap featC (Lexm.feats x0))]]))
 (h2:(ByteArray.toList (Lexm.stem x0) == ByteArray.toList (ByteArray.mk #[45]))=true):vexec Tryd.prog X call lf 0 fg22 (regN Tryd.f22 6) (f22_S2 x0 i0)=some (Ex.normal,(f22_S3 x0 i0)) :=
  around_sound (ans:=[(3,Ans.v (bo true)),(11,Ans.v (bo true)),(21,Ans.b true)]) (by kernel_rfl) (ai h0 (ai h1 (ai h2 trivial)))
theorem f22_g6_ttfttt (x0:Lexm)(X:Ext)(call:Caller)(lf i0:Nat)
 (h0:callv X call false 49 [st (Lexm.id x0)] [Ob.cells [st (Lexm.id x0),st (Lexm.cat x0),st (Lexm.stem x0),st (Lexm.par x0),lro (List.length (Lexm.feats x0)) 2 (List.flatMap featC (Lexm.feats x0))]] 0=some (bo true,[Ob.cells [st (Lexm.id x0),st (Lexm.cat x0),st (Lexm.stem x0),st (Lexm.par x0),lro (List.length (Lexm.feats x0)) 2 (List.flatMap featC (Lexm.feats x0))]]))
 (h1:callv X call false 49 [st (Lexm.cat x0)] [Ob.cells [st (Lexm.id x0),st (Lexm.cat x0),st (Lexm.stem x0),st (Lexm.par x0),lro (List.length (Lexm.feats x0)) 2 (List.flatMap featC (Lexm.feats x0))]] 0=some (bo true,[Ob.cells [st (Lexm.id x0),st (Lexm.cat x0),st (Lexm.stem x0),st (Lexm.par x0),lro (List.length (Lexm.feats x0)) 2 (List.flatMap featC (Lexm.feats x0))]]))
 (h2:(ByteArray.toList (Lexm.stem x0) == ByteArray.toList (ByteArray.mk #[45]))=false)
 (h3:(!ByteArray.toList (Lexm.par x0) == ByteArray.toList (ByteArray.mk #[]))=true)
 (h4:callv X call false 49 [st (Lexm.par x0)] [Ob.cells [st (Lexm.id x0),st (Lexm.cat x0),st (Lexm.stem x0),st (Lexm.par x0),lro (List.length (Lexm.feats x0)) 2 (List.flatMap featC (Lexm.feats x0))]] 0=some (bo true,[Ob.cells [st (Lexm.id x0),st (Lexm.cat x0),st (Lexm.stem x0),st (Lexm.par x0),lro (List.length (Lexm.feats x0)) 2 (List.flatMap featC (Lexm.feats x0))]]))
 (h5:(ByteArray.toList (Lexm.par x0) == ByteArray.toList (ByteArray.mk #[45]))=true):vexec Tryd.prog X call lf 0 fg22 (regN Tryd.f22 6) (f22_S2 x0 i0)=some (Ex.normal,(f22_S3 x0 i0)) :=
  around_sound (ans:=[(3,Ans.v (bo true)),(11,Ans.v (bo true)),(21,Ans.b false),(29,Ans.b true),(37,Ans.v (bo true)),(49,Ans.b true)]) (by kernel_rfl) (ai h0 (ai h1 (ai h2 (ai h3 (ai h4 (ai h5 trivial))))))
def f22_S4 (x0:Lexm)(i0:Nat):St :=
  stOf 88 [2,5,6,7,8,10,11,12,13,14,15,16,17,18,19,20,21,22,23,24,25,26,27,28,29,30,31,32,33,34,35,36,37,38,39,40,41,42,43,44,45,46,47,48,49,50,51,52,53,54,55,56,57,58,59] [(0,AV.agg [st (Lexm.id x0),st (Lexm.cat x0),st (Lexm.stem x0),st (Lexm.par x0),lro (List.length (Lexm.feats x0)) 2 (List.flatMap featC (Lexm.feats x0))]),(1,AV.ref 0 0),(3,i6 (↑i0:Int)),(9,bo false),(60,bo false)] [Ob.cells [st (Lexm.id x0),st (Lexm.cat x0),st (Lexm.stem x0),st (Lexm.par x0),lro (List.length (Lexm.feats x0)) 2 (List.flatMap featC (Lexm.feats x0))]]
theorem f22_g6_ttfttft (x0:Lexm)(X:Ext)(call:Caller)(lf i0:Nat)
 (h0:callv X call false 49 [st (Lexm.id x0)] [Ob.cells [st (Lexm.id x0),st (Lexm.cat x0),st (Lexm.stem x0),st (Lexm.par x0),lro (List.length (Lexm.feats x0)) 2 (List.flatMap featC (Lexm.feats x0))]] 0=some (bo true,[Ob.cells [st (Lexm.id x0),st (Lexm.cat x0),st (Lexm.stem x0),st (Lexm.par x0),lro (List.length (Lexm.feats x0)) 2 (List.flatMap featC (Lexm.feats x0))]]))
 (h1:callv X call false 49 [st (Lexm.cat x0)] [Ob.cells [st (Lexm.id x0),st (Lexm.cat x0),st (Lexm.stem x0),st (Lexm.par x0),lro (List.length (Lexm.feats x0)) 2 (List.flatMap featC (Lexm.feats x0))]] 0=some (bo true,[Ob.cells [st (Lexm.id x0),st (Lexm.cat x0),st (Lexm.stem x0),st (Lexm.par x0),lro (List.length (Lexm.feats x0)) 2 (List.flatMap featC (Lexm.feats x0))]]))
 (h2:(ByteArray.toList (Lexm.stem x0) == ByteArray.toList (ByteArray.mk #[45]))=false)
 (h3:(!ByteArray.toList (Lexm.par x0) == ByteArray.toList (ByteArray.mk #[]))=true)
 (h4:callv X call false 49 [st (Lexm.par x0)] [Ob.cells [st (Lexm.id x0),st (Lexm.cat x0),st (Lexm.stem x0),st (Lexm.par x0),lro (List.length (Lexm.feats x0)) 2 (List.flatMap featC (Lexm.feats x0))]] 0=some (bo true,[Ob.cells [st (Lexm.id x0),st (Lexm.cat x0),st (Lexm.stem x0),st (Lexm.par x0),lro (List.length (Lexm.feats x0)) 2 (List.flatMap featC (Lexm.feats x0))]]))
 (h5:(ByteArray.toList (Lexm.par x0) == ByteArray.toList (ByteArray.mk #[45]))=false)
 (h6:callv X call false 50 [lro (List.length (Lexm.feats x0)) 2 (List.flatMap featC (Lexm.feats x0))] [Ob.cells [st (Lexm.id x0),st (Lexm.cat x0),st (Lexm.stem x0),st (Lexm.par x0),lro (List.length (Lexm.feats x0)) 2 (List.flatMap featC (Lexm.feats x0))]] 0=some (bo true,[Ob.cells [st (Lexm.id x0),st (Lexm.cat x0),st (Lexm.stem x0),st (Lexm.par x0),lro (List.length (Lexm.feats x0)) 2 (List.flatMap featC (Lexm.feats x0))]])):vexec Tryd.prog X call lf 0 fg22 (regN Tryd.f22 6) (f22_S2 x0 i0)=some (Ex.normal,(f22_S4 x0 i0)) :=
  around_sound (ans:=[(3,Ans.v (bo true)),(11,Ans.v (bo true)),(21,Ans.b false),(29,Ans.b true),(37,Ans.v (bo true)),(49,Ans.b false),(57,Ans.v (bo true))]) (by kernel_rfl) (ai h0 (ai h1 (ai h2 (ai h3 (ai h4 (ai h5 (ai h6 trivial)))))))
theorem f22_g6_ttfttff (x0:Lexm)(X:Ext)(call:Caller)(lf i0:Nat)
 (h0:callv X call false 49 [st (Lexm.id x0)] [Ob.cells [st (Lexm.id x0),st (Lexm.cat x0),st (Lexm.stem x0),st (Lexm.par x0),lro (List.length (Lexm.feats x0)) 2 (List.flatMap featC (Lexm.feats x0))]] 0=some (bo true,[Ob.cells [st (Lexm.id x0),st (Lexm.cat x0),st (Lexm.stem x0),st (Lexm.par x0),lro (List.length (Lexm.feats x0)) 2 (List.flatMap featC (Lexm.feats x0))]]))
 (h1:callv X call false 49 [st (Lexm.cat x0)] [Ob.cells [st (Lexm.id x0),st (Lexm.cat x0),st (Lexm.stem x0),st (Lexm.par x0),lro (List.length (Lexm.feats x0)) 2 (List.flatMap featC (Lexm.feats x0))]] 0=some (bo true,[Ob.cells [st (Lexm.id x0),st (Lexm.cat x0),st (Lexm.stem x0),st (Lexm.par x0),lro (List.length (Lexm.feats x0)) 2 (List.flatMap featC (Lexm.feats x0))]]))
 (h2:(ByteArray.toList (Lexm.stem x0) == ByteArray.toList (ByteArray.mk #[45]))=false)
 (h3:(!ByteArray.toList (Lexm.par x0) == ByteArray.toList (ByteArray.mk #[]))=true)
 (h4:callv X call false 49 [st (Lexm.par x0)] [Ob.cells [st (Lexm.id x0),st (Lexm.cat x0),st (Lexm.stem x0),st (Lexm.par x0),lro (List.length (Lexm.feats x0)) 2 (List.flatMap featC (Lexm.feats x0))]] 0=some (bo true,[Ob.cells [st (Lexm.id x0),st (Lexm.cat x0),st (Lexm.stem x0),st (Lexm.par x0),lro (List.length (Lexm.feats x0)) 2 (List.flatMap featC (Lexm.feats x0))]]))
 (h5:(ByteArray.toList (Lexm.par x0) == ByteArray.toList (ByteArray.mk #[45]))=false)
 (h6:callv X call false 50 [lro (List.length (Lexm.feats x0)) 2 (List.flatMap featC (Lexm.feats x0))] [Ob.cells [st (Lexm.id x0),st (Lexm.cat x0),st (Lexm.stem x0),st (Lexm.par x0),lro (List.length (Lexm.feats x0)) 2 (List.flatMap featC (Lexm.feats x0))]] 0=some (bo false,[Ob.cells [st (Lexm.id x0),st (Lexm.cat x0),st (Lexm.stem x0),st (Lexm.par x0),lro (List.length (Lexm.feats x0)) 2 (List.flatMap featC (Lexm.feats x0))]])):vexec Tryd.prog X call lf 0 fg22 (regN Tryd.f22 6) (f22_S2 x0 i0)=some (Ex.normal,(f22_S3 x0 i0)) :=
  around_sound (ans:=[(3,Ans.v (bo true)),(11,Ans.v (bo true)),(21,Ans.b false),(29,Ans.b true),(37,Ans.v (bo true)),(49,Ans.b false),(57,Ans.v (bo false))]) (by kernel_rfl) (ai h0 (ai h1 (ai h2 (ai h3 (ai h4 (ai h5 (ai h6 trivial)))))))
theorem f22_g6_ttftf (x0:Lexm)(X:Ext)(call:Caller)(lf i0:Nat)
 (h0:callv X call false 49 [st (Lexm.id x0)] [Ob.cells [st (Lexm.id x0),st (Lexm.cat x0),st (Lexm.stem x0),st (Lexm.par x0),lro (List.length (Lexm.feats x0)) 2 (List.flatMap featC (Lexm.feats x0))]] 0=some (bo true,[Ob.cells [st (Lexm.id x0),st (Lexm.cat x0),st (Lexm.stem x0),st (Lexm.par x0),lro (List.length (Lexm.feats x0)) 2 (List.flatMap featC (Lexm.feats x0))]]))
 (h1:callv X call false 49 [st (Lexm.cat x0)] [Ob.cells [st (Lexm.id x0),st (Lexm.cat x0),st (Lexm.stem x0),st (Lexm.par x0),lro (List.length (Lexm.feats x0)) 2 (List.flatMap featC (Lexm.feats x0))]] 0=some (bo true,[Ob.cells [st (Lexm.id x0),st (Lexm.cat x0),st (Lexm.stem x0),st (Lexm.par x0),lro (List.length (Lexm.feats x0)) 2 (List.flatMap featC (Lexm.feats x0))]]))
 (h2:(ByteArray.toList (Lexm.stem x0) == ByteArray.toList (ByteArray.mk #[45]))=false)
 (h3:(!ByteArray.toList (Lexm.par x0) == ByteArray.toList (ByteArray.mk #[]))=true)
 (h4:callv X call false 49 [st (Lexm.par x0)] [Ob.cells [st (Lexm.id x0),st (Lexm.cat x0),st (Lexm.stem x0),st (Lexm.par x0),lro (List.length (Lexm.feats x0)) 2 (List.flatMap featC (Lexm.feats x0))]] 0=some (bo false,[Ob.cells [st (Lexm.id x0),st (Lexm.cat x0),st (Lexm.stem x0),st (Lexm.par x0),lro (List.length (Lexm.feats x0)) 2 (List.flatMap featC (Lexm.feats x0))]])):vexec Tryd.prog X call lf 0 fg22 (regN Tryd.f22 6) (f22_S2 x0 i0)=some (Ex.normal,(f22_S3 x0 i0)) :=
  around_sound (ans:=[(3,Ans.v (bo true)),(11,Ans.v (bo true)),(21,Ans.b false),(29,Ans.b true),(37,Ans.v (bo false))]) (by kernel_rfl) (ai h0 (ai h1 (ai h2 (ai h3 (ai h4 trivial)))))
theorem f22_g6_ttffft (x0:Lexm)(X:Ext)(call:Caller)(lf i0:Nat)
 (h0:callv X call false 49 [st (Lexm.id x0)] [Ob.cells [st (Lexm.id x0),st (Lexm.cat x0),st (Lexm.stem x0),st (Lexm.par x0),lro (List.length (Lexm.feats x0)) 2 (List.flatMap featC (Lexm.feats x0))]] 0=some (bo true,[Ob.cells [st (Lexm.id x0),st (Lexm.cat x0),st (Lexm.stem x0),st (Lexm.par x0),lro (List.length (Lexm.feats x0)) 2 (List.flatMap featC (Lexm.feats x0))]]))
 (h1:callv X call false 49 [st (Lexm.cat x0)] [Ob.cells [st (Lexm.id x0),st (Lexm.cat x0),st (Lexm.stem x0),st (Lexm.par x0),lro (List.length (Lexm.feats x0)) 2 (List.flatMap featC (Lexm.feats x0))]] 0=some (bo true,[Ob.cells [st (Lexm.id x0),st (Lexm.cat x0),st (Lexm.stem x0),st (Lexm.par x0),lro (List.length (Lexm.feats x0)) 2 (List.flatMap featC (Lexm.feats x0))]]))
 (h2:(ByteArray.toList (Lexm.stem x0) == ByteArray.toList (ByteArray.mk #[45]))=false)
 (h3:(!ByteArray.toList (Lexm.par x0) == ByteArray.toList (ByteArray.mk #[]))=false)
 (h4:(ByteArray.toList (Lexm.par x0) == ByteArray.toList (ByteArray.mk #[45]))=false)
 (h5:callv X call false 50 [lro (List.length (Lexm.feats x0)) 2 (List.flatMap featC (Lexm.feats x0))] [Ob.cells [st (Lexm.id x0),st (Lexm.cat x0),st (Lexm.stem x0),st (Lexm.par x0),lro (List.length (Lexm.feats x0)) 2 (List.flatMap featC (Lexm.feats x0))]] 0=some (bo true,[Ob.cells [st (Lexm.id x0),st (Lexm.cat x0),st (Lexm.stem x0),st (Lexm.par x0),lro (List.length (Lexm.feats x0)) 2 (List.flatMap featC (Lexm.feats x0))]])):vexec Tryd.prog X call lf 0 fg22 (regN Tryd.f22 6) (f22_S2 x0 i0)=some (Ex.normal,(f22_S4 x0 i0)) :=
  around_sound (ans:=[(3,Ans.v (bo true)),(11,Ans.v (bo true)),(21,Ans.b false),(29,Ans.b false),(45,Ans.b false),(53,Ans.v (bo true))]) (by kernel_rfl) (ai h0 (ai h1 (ai h2 (ai h3 (ai h4 (ai h5 trivial))))))
theorem f22_g6_ttffff (x0:Lexm)(X:Ext)(call:Caller)(lf i0:Nat)
 (h0:callv X call false 49 [st (Lexm.id x0)] [Ob.cells [st (Lexm.id x0),st (Lexm.cat x0),st (Lexm.stem x0),st (Lexm.par x0),lro (List.length (Lexm.feats x0)) 2 (List.flatMap featC (Lexm.feats x0))]] 0=some (bo true,[Ob.cells [st (Lexm.id x0),st (Lexm.cat x0),st (Lexm.stem x0),st (Lexm.par x0),lro (List.length (Lexm.feats x0)) 2 (List.flatMap featC (Lexm.feats x0))]]))
 (h1:callv X call false 49 [st (Lexm.cat x0)] [Ob.cells [st (Lexm.id x0),st (Lexm.cat x0),st (Lexm.stem x0),st (Lexm.par x0),lro (List.length (Lexm.feats x0)) 2 (List.flatMap featC (Lexm.feats x0))]] 0=some (bo true,[Ob.cells [st (Lexm.id x0),st (Lexm.cat x0),st (Lexm.stem x0),st (Lexm.par x0),lro (List.length (Lexm.feats x0)) 2 (List.flatMap featC (Lexm.feats x0))]]))
 (h2:(ByteArray.toList (Lexm.stem x0) == ByteArray.toList (ByteArray.mk #[45]))=false)
 (h3:(!ByteArray.toList (Lexm.par x0) == ByteArray.toList (ByteArray.mk #[]))=false)
 (h4:(ByteArray.toList (Lexm.par x0) == ByteArray.toList (ByteArray.mk #[45]))=false)
 (h5:callv X call false 50 [lro (List.length (Lexm.feats x0)) 2 (List.flatMap featC (Lexm.feats x0))] [Ob.cells [st (Lexm.id x0),st (Lexm.cat x0),st (Lexm.stem x0),st (Lexm.par x0),lro (List.length (Lexm.feats x0)) 2 (List.flatMap featC (Lexm.feats x0))]] 0=some (bo false,[Ob.cells [st (Lexm.id x0),st (Lexm.cat x0),st (Lexm.stem x0),st (Lexm.par x0),lro (List.length (Lexm.feats x0)) 2 (List.flatMap featC (Lexm.feats x0))]])):vexec Tryd.prog X call lf 0 fg22 (regN Tryd.f22 6) (f22_S2 x0 i0)=some (Ex.normal,(f22_S3 x0 i0)) :=
  around_sound (ans:=[(3,Ans.v (bo true)),(11,Ans.v (bo true)),(21,Ans.b false),(29,Ans.b false),(45,Ans.b false),(53,Ans.v (bo false))]) (by kernel_rfl) (ai h0 (ai h1 (ai h2 (ai h3 (ai h4 (ai h5 trivial))))))
theorem f22_g6_tf (x0:Lexm)(X:Ext)(call:Caller)(lf i0:Nat)
 (h0:callv X call false 49 [st (Lexm.id x0)] [Ob.cells [st (Lexm.id x0),st (Lexm.cat x0),st (Lexm.stem x0),st (Lexm.par x0),lro (List.length (Lexm.feats x0)) 2 (List.flatMap featC (Lexm.feats x0))]] 0=some (bo true,[Ob.cells [st (Lexm.id x0),st (Lexm.cat x0),st (Lexm.stem x0),st (Lexm.par x0),lro (List.length (Lexm.feats x0)) 2 (List.flatMap featC (Lexm.feats x0))]]))
 (h1:callv X call false 49 [st (Lexm.cat x0)] [Ob.cells [st (Lexm.id x0),st (Lexm.cat x0),st (Lexm.stem x0),st (Lexm.par x0),lro (List.length (Lexm.feats x0)) 2 (List.flatMap featC (Lexm.feats x0))]] 0=some (bo false,[Ob.cells [st (Lexm.id x0),st (Lexm.cat x0),st (Lexm.stem x0),st (Lexm.par x0),lro (List.length (Lexm.feats x0)) 2 (List.flatMap featC (Lexm.feats x0))]])):vexec Tryd.prog X call lf 0 fg22 (regN Tryd.f22 6) (f22_S2 x0 i0)=some (Ex.normal,(f22_S3 x0 i0)) :=
  around_sound (ans:=[(3,Ans.v (bo true)),(11,Ans.v (bo false))]) (by kernel_rfl) (ai h0 (ai h1 trivial))
theorem f22_g6_f (x0:Lexm)(X:Ext)(call:Caller)(lf i0:Nat)
 (h0:callv X call false 49 [st (Lexm.id x0)] [Ob.cells [st (Lexm.id x0),st (Lexm.cat x0),st (Lexm.stem x0),st (Lexm.par x0),lro (List.length (Lexm.feats x0)) 2 (List.flatMap featC (Lexm.feats x0))]] 0=some (bo false,[Ob.cells [st (Lexm.id x0),st (Lexm.cat x0),st (Lexm.stem x0),st (Lexm.par x0),lro (List.length (Lexm.feats x0)) 2 (List.flatMap featC (Lexm.feats x0))]])):vexec Tryd.prog X call lf 0 fg22 (regN Tryd.f22 6) (f22_S2 x0 i0)=some (Ex.normal,(f22_S3 x0 i0)) :=
  around_sound (ans:=[(3,Ans.v (bo false))]) (by kernel_rfl) (ai h0 trivial)
def f22_S5 (x0:Lexm)(b60:Bool)(i0:Nat):St :=
  stOf 88 [2,5,6,7,8,10,11,12,13,14,15,16,17,18,19,20,21,22,23,24,25,26,27,28,29,30,31,32,33,34,35,36,37,38,39,40,41,42,43,44,45,46,47,48,49,50,51,52,53,54,55,56,57,58,59] [(0,AV.agg [st (Lexm.id x0),st (Lexm.cat x0),st (Lexm.stem x0),st (Lexm.par x0),lro (List.length (Lexm.feats x0)) 2 (List.flatMap featC (Lexm.feats x0))]),(1,AV.ref 0 0),(3,i6 (↑i0:Int)),(9,bo false),(60,bo b60)] [Ob.cells [st (Lexm.id x0),st (Lexm.cat x0),st (Lexm.stem x0),st (Lexm.par x0),lro (List.length (Lexm.feats x0)) 2 (List.flatMap featC (Lexm.feats x0))]]
theorem f22_plft (x0:Lexm)(b60:Bool)(X:Ext)(call:Caller)(lf i0:Nat)
 (h0:vexec Tryd.prog X call lf 0 fg22 (Code.loop (loopN Tryd.f22 0)) (f22_S0 x0)=some (Ex.exit 0,(f22_S2 x0 i0)))
 (h1:vexec Tryd.prog X call lf 0 fg22 (regN Tryd.f22 6) (f22_S2 x0 i0)=some (Ex.normal,(f22_S5 x0 b60 i0)))
 (h2:b60=true):vbody Tryd.prog X call lf fg22 Tryd.f22 (codeOf Tryd.f22) [AV.agg (lexC x0)] [] 0=some (st (ByteArray.mk #[]),[Ob.cells [st (Lexm.id x0),st (Lexm.cat x0),st (Lexm.stem x0),st (Lexm.par x0),lro (List.length (Lexm.feats x0)) 2 (List.flatMap featC (Lexm.feats x0))]]) :=
  along_sound (ans:=[(5,Ans.l (Ex.exit 0) (f22_S2 x0 i0)),(6,Ans.l Ex.normal (f22_S5 x0 b60 i0)),(7,Ans.b true)]) (by kernel_rfl) (ai h0 (ai h1 (ai h2 trivial)))
theorem f22_g8_ (x0:Lexm)(b60:Bool)(X:Ext)(call:Caller)(lf i0:Nat)(x63 x66 x67 x70 x71 x72 x75 x76:ByteArray)
 (h0:keep [Ob.cells [st (Lexm.id x0),st (Lexm.cat x0),st (Lexm.stem x0),st (Lexm.par x0),lro (List.length (Lexm.feats x0)) 2 (List.flatMap featC (Lexm.feats x0))]] (binv Tryd.prog BinOp.add 9 (st (Lexm.id x0)) (st (ByteArray.mk #[32])))=some (st x63,[Ob.cells [st (Lexm.id x0),st (Lexm.cat x0),st (Lexm.stem x0),st (Lexm.par x0),lro (List.length (Lexm.feats x0)) 2 (List.flatMap featC (Lexm.feats x0))]]))
 (h1:keep [Ob.cells [st (Lexm.id x0),st (Lexm.cat x0),st (Lexm.stem x0),st (Lexm.par x0),lro (List.length (Lexm.feats x0)) 2 (List.flatMap featC (Lexm.feats x0))]] (binv Tryd.prog BinOp.add 9 (st x63) (st (Lexm.cat x0)))=some (st x66,[Ob.cells [st (Lexm.id x0),st (Lexm.cat x0),st (Lexm.stem x0),st (Lexm.par x0),lro (List.length (Lexm.feats x0)) 2 (List.flatMap featC (Lexm.feats x0))]]))
 (h2:keep [Ob.cells [st (Lexm.id x0),st (Lexm.cat x0),st (Lexm.stem x0),st (Lexm.par x0),lro (List.length (Lexm.feats x0)) 2 (List.flatMap featC (Lexm.feats x0))]] (binv Tryd.prog BinOp.add 9 (st x66) (st (ByteArray.mk #[32])))=some (st x67,[Ob.cells [st (Lexm.id x0),st (Lexm.cat x0),st (Lexm.stem x0),st (Lexm.par x0),lro (List.length (Lexm.feats x0)) 2 (List.flatMap featC (Lexm.feats x0))]]))
 (h3:callv X call true 51 [st (Lexm.stem x0)] [Ob.cells [st (Lexm.id x0),st (Lexm.cat x0),st (Lexm.stem x0),st (Lexm.par x0),lro (List.length (Lexm.feats x0)) 2 (List.flatMap featC (Lexm.feats x0))]] 0=some (st x70,[Ob.cells [st (Lexm.id x0),st (Lexm.cat x0),st (Lexm.stem x0),st (Lexm.par x0),lro (List.length (Lexm.feats x0)) 2 (List.flatMap featC (Lexm.feats x0))]]))
 (h4:keep [Ob.cells [st (Lexm.id x0),st (Lexm.cat x0),st (Lexm.stem x0),st (Lexm.par x0),lro (List.length (Lexm.feats x0)) 2 (List.flatMap featC (Lexm.feats x0))]] (binv Tryd.prog BinOp.add 9 (st x67) (st x70))=some (st x71,[Ob.cells [st (Lexm.id x0),st (Lexm.cat x0),st (Lexm.stem x0),st (Lexm.par x0),lro (List.length (Lexm.feats x0)) 2 (List.flatMap featC (Lexm.feats x0))]]))
 (h5:keep [Ob.cells [st (Lexm.id x0),st (Lexm.cat x0),st (Lexm.stem x0),st (Lexm.par x0),lro (List.length (Lexm.feats x0)) 2 (List.flatMap featC (Lexm.feats x0))]] (binv Tryd.prog BinOp.add 9 (st x71) (st (ByteArray.mk #[32])))=some (st x72,[Ob.cells [st (Lexm.id x0),st (Lexm.cat x0),st (Lexm.stem x0),st (Lexm.par x0),lro (List.length (Lexm.feats x0)) 2 (List.flatMap featC (Lexm.feats x0))]]))
 (h6:callv X call true 51 [st (Lexm.par x0)] [Ob.cells [st (Lexm.id x0),st (Lexm.cat x0),st (Lexm.stem x0),st (Lexm.par x0),lro (List.length (Lexm.feats x0)) 2 (List.flatMap featC (Lexm.feats x0))]] 0=some (st x75,[Ob.cells [st (Lexm.id x0),st (Lexm.cat x0),st (Lexm.stem x0),st (Lexm.par x0),lro (List.length (Lexm.feats x0)) 2 (List.flatMap featC (Lexm.feats x0))]]))
 (h7:keep [Ob.cells [st (Lexm.id x0),st (Lexm.cat x0),st (Lexm.stem x0),st (Lexm.par x0),lro (List.length (Lexm.feats x0)) 2 (List.flatMap featC (Lexm.feats x0))]] (binv Tryd.prog BinOp.add 9 (st x72) (st x75))=some (st x76,[Ob.cells [st (Lexm.id x0),st (Lexm.cat x0),st (Lexm.stem x0),st (Lexm.par x0),lro (List.length (Lexm.feats x0)) 2 (List.flatMap featC (Lexm.feats x0))]])):vexec Tryd.prog X call lf 0 fg22 (regN Tryd.f22 8) (f22_S5 x0 b60 i0)=some (Ex.normal,stOf 88 [2,5,6,7,8,10,11,12,13,14,15,16,17,18,19,20,21,22,23,24,25,26,27,28,29,30,31,32,33,34,35,36,37,38,39,40,41,42,43,44,45,46,47,48,49,50,51,52,53,54,55,56,57,58,59,61,62,63,64,65,66,67,68,69,70,71,72,73,74,75,76] [(0,AV.agg [st (Lexm.id x0),st (Lexm.cat x0),st (Lexm.stem x0),st (Lexm.par x0),lro (List.length (Lexm.feats x0)) 2 (List.flatMap featC (Lexm.feats x0))]),(1,AV.ref 0 0),(3,i6 (↑i0:Int)),(4,st x76),(9,bo false),(60,bo b60)] [Ob.cells [st (Lexm.id x0),st (Lexm.cat x0),st (Lexm.stem x0),st (Lexm.par x0),lro (List.length (Lexm.feats x0)) 2 (List.flatMap featC (Lexm.feats x0))]]) :=
  around_sound (ans:=[(3,Ans.v (st x63)),(6,Ans.v (st x66)),(7,Ans.v (st x67)),(10,Ans.v (st x70)),(11,Ans.v (st x71)),(12,Ans.v (st x72)),(15,Ans.v (st x75)),(16,Ans.v (st x76))]) (by kernel_rfl) (ai h0 (ai h1 (ai h2 (ai h3 (ai h4 (ai h5 (ai h6 (ai h7 trivial))))))))
def f22_S6 (x0:Lexm)(b60:Bool)(y4:ByteArray)(i0:Nat):St :=
  stOf 88 [2,5,6,7,8,10,11,12,13,14,15,16,17,18,19,20,21,22,23,24,25,26,27,28,29,30,31,32,33,34,35,36,37,38,39,40,41,42,43,44,45,46,47,48,49,50,51,52,53,54,55,56,57,58,59,61,62,63,64,65,66,67,68,69,70,71,72,73,74,75,76] [(0,AV.agg [st (Lexm.id x0),st (Lexm.cat x0),st (Lexm.stem x0),st (Lexm.par x0),lro (List.length (Lexm.feats x0)) 2 (List.flatMap featC (Lexm.feats x0))]),(1,AV.ref 0 0),(3,i6 (↑i0:Int)),(4,st y4),(9,bo false),(60,bo b60)] [Ob.cells [st (Lexm.id x0),st (Lexm.cat x0),st (Lexm.stem x0),st (Lexm.par x0),lro (List.length (Lexm.feats x0)) 2 (List.flatMap featC (Lexm.feats x0))]]
theorem f22_plfft (x0:Lexm)(b60:Bool)(y4:ByteArray)(X:Ext)(call:Caller)(lf i0:Nat)(x84 x85 x86:ByteArray)
 (h0:vexec Tryd.prog X call lf 0 fg22 (Code.loop (loopN Tryd.f22 0)) (f22_S0 x0)=some (Ex.exit 0,(f22_S2 x0 i0)))
 (h1:vexec Tryd.prog X call lf 0 fg22 (regN Tryd.f22 6) (f22_S2 x0 i0)=some (Ex.normal,(f22_S5 x0 b60 i0)))
 (h2:b60=false)
 (h3:vexec Tryd.prog X call lf 0 fg22 (regN Tryd.f22 8) (f22_S5 x0 b60 i0)=some (Ex.normal,(f22_S6 x0 b60 y4 i0)))
 (h4:decide ((↑(List.length (Lexm.feats x0)):Int)>0)=true)
 (h5:callv X call false 52 [lro (List.length (Lexm.feats x0)) 2 (List.flatMap featC (Lexm.feats x0))] [Ob.cells [st (Lexm.id x0),st (Lexm.cat x0),st (Lexm.stem x0),st (Lexm.par x0),lro (List.length (Lexm.feats x0)) 2 (List.flatMap featC (Lexm.feats x0))]] 0=some (st x84,[Ob.cells [st (Lexm.id x0),st (Lexm.cat x0),st (Lexm.stem x0),st (Lexm.par x0),lro (List.length (Lexm.feats x0)) 2 (List.flatMap featC (Lexm.feats x0))]]))
 (h6:keep [Ob.cells [st (Lexm.id x0),st (Lexm.cat x0),st (Lexm.stem x0),st (Lexm.par x0),lro (List.length (Lexm.feats x0)) 2 (List.flatMap featC (Lexm.feats x0))]] (binv Tryd.prog BinOp.add 9 (st (ByteArray.mk #[32])) (st x84))=some (st x85,[Ob.cells [st (Lexm.id x0),st (Lexm.cat x0),st (Lexm.stem x0),st (Lexm.par x0),lro (List.length (Lexm.feats x0)) 2 (List.flatMap featC (Lexm.feats x0))]]))
 (h7:keep [Ob.cells [st (Lexm.id x0),st (Lexm.cat x0),st (Lexm.stem x0),st (Lexm.par x0),lro (List.length (Lexm.feats x0)) 2 (List.flatMap featC (Lexm.feats x0))]] (binv Tryd.prog BinOp.add 9 (st y4) (st x85))=some (st x86,[Ob.cells [st (Lexm.id x0),st (Lexm.cat x0),st (Lexm.stem x0),st (Lexm.par x0),lro (List.length (Lexm.feats x0)) 2 (List.flatMap featC (Lexm.feats x0))]])):vbody Tryd.prog X call lf fg22 Tryd.f22 (codeOf Tryd.f22) [AV.agg (lexC x0)] [] 0=some (st x86,[Ob.cells [st (Lexm.id x0),st (Lexm.cat x0),st (Lexm.stem x0),st (Lexm.par x0),lro (List.length (Lexm.feats x0)) 2 (List.flatMap featC (Lexm.feats x0))]]) :=
  along_sound (ans:=[(5,Ans.l (Ex.exit 0) (f22_S2 x0 i0)),(6,Ans.l Ex.normal (f22_S5 x0 b60 i0)),(7,Ans.b false),(8,Ans.l Ex.normal (f22_S6 x0 b60 y4 i0)),(13,Ans.b true),(19,Ans.v (st x84)),(20,Ans.v (st x85)),(21,Ans.v (st x86))]) (by kernel_rfl) (ai h0 (ai h1 (ai h2 (ai h3 (ai h4 (ai h5 (ai h6 (ai h7 trivial))))))))
theorem f22_plfff (x0:Lexm)(b60:Bool)(y4:ByteArray)(X:Ext)(call:Caller)(lf i0:Nat)
 (h0:vexec Tryd.prog X call lf 0 fg22 (Code.loop (loopN Tryd.f22 0)) (f22_S0 x0)=some (Ex.exit 0,(f22_S2 x0 i0)))
 (h1:vexec Tryd.prog X call lf 0 fg22 (regN Tryd.f22 6) (f22_S2 x0 i0)=some (Ex.normal,(f22_S5 x0 b60 i0)))
 (h2:b60=false)
 (h3:vexec Tryd.prog X call lf 0 fg22 (regN Tryd.f22 8) (f22_S5 x0 b60 i0)=some (Ex.normal,(f22_S6 x0 b60 y4 i0)))
 (h4:decide ((↑(List.length (Lexm.feats x0)):Int)>0)=false):vbody Tryd.prog X call lf fg22 Tryd.f22 (codeOf Tryd.f22) [AV.agg (lexC x0)] [] 0=some (st y4,[Ob.cells [st (Lexm.id x0),st (Lexm.cat x0),st (Lexm.stem x0),st (Lexm.par x0),lro (List.length (Lexm.feats x0)) 2 (List.flatMap featC (Lexm.feats x0))]]) :=
  along_sound (ans:=[(5,Ans.l (Ex.exit 0) (f22_S2 x0 i0)),(6,Ans.l Ex.normal (f22_S5 x0 b60 i0)),(7,Ans.b false),(8,Ans.l Ex.normal (f22_S6 x0 b60 y4 i0)),(13,Ans.b false)]) (by kernel_rfl) (ai h0 (ai h1 (ai h2 (ai h3 (ai h4 trivial)))))
def fg24:Nat→List Nat
  | 1=>[16,17,18,19,20,21]
  | 2=>[22,23,24,25,26,27]
  | 3=>[28,29,30,31,32,33]
  | 4=>[34,35,36,37,38,39]
  | 5=>[40,41,42,43,44,45,46,47,48]
  | 7=>[51,52,53,54,55,56,57]
  | 9=>[59,60,61,62,63]
  | 10=>[64]
  | 12=>[67,68]
  | 13=>[69,70,71,72,73,74,75]
  | _=>[]
def f24_S0 (s0:ByteArray):St :=
  stOf 79 [] [(0,st s0),(2,AV.ref 0 0),(3,i6 0)] [Ob.cells [st (ByteArray.mk #[]),st (ByteArray.mk #[]),st (ByteArray.mk #[]),st (ByteArray.mk #[]),AV.list LK.nil 0 0 []]]
theorem f24_g1_t (s0:ByteArray)(X:Ext)(call:Caller)(lf:Nat)(a c:ByteArray)(d:Bool)
 (h0:callv X call false 57 [st s0] [Ob.cells [st (ByteArray.mk #[]),st (ByteArray.mk #[]),st (ByteArray.mk #[]),st (ByteArray.mk #[]),AV.list LK.nil 0 0 []]] 0=some (AV.tup [st a,st c,bo d],[Ob.cells [st (ByteArray.mk #[]),st (ByteArray.mk #[]),st (ByteArray.mk #[]),st (ByteArray.mk #[]),AV.list LK.nil 0 0 []]]))
 (h1:d=true):vexec Tryd.prog X call lf 0 fg24 (regN Tryd.f24 1) (f24_S0 s0)=some (Ex.normal,stOf 79 [16,17,18,19,20,21] [(0,st s0),(2,AV.ref 0 0),(3,i6 0),(4,st a),(5,st c),(6,bo true)] [Ob.cells [st (ByteArray.mk #[]),st (ByteArray.mk #[]),st (ByteArray.mk #[]),st (ByteArray.mk #[]),AV.list LK.nil 0 0 []]]) :=
  around_sound (ans:=[(2,Ans.v (AV.tup [st a,st c,bo d])),(6,Ans.b true)]) (by kernel_rfl) (ai h0 (ai h1 trivial))
theorem f24_g1_f (s0:ByteArray)(X:Ext)(call:Caller)(lf:Nat)(a c:ByteArray)(d:Bool)
 (h0:callv X call false 57 [st s0] [Ob.cells [st (ByteArray.mk #[]),st (ByteArray.mk #[]),st (ByteArray.mk #[]),st (ByteArray.mk #[]),AV.list LK.nil 0 0 []]] 0=some (AV.tup [st a,st c,bo d],[Ob.cells [st (ByteArray.mk #[]),st (ByteArray.mk #[]),st (ByteArray.mk #[]),st (ByteArray.mk #[]),AV.list LK.nil 0 0 []]]))
 (h1:d=false):vexec Tryd.prog X call lf 0 fg24 (regN Tryd.f24 1) (f24_S0 s0)=some (Ex.normal,stOf 79 [16,17,18,19,20,21] [(0,st s0),(2,AV.ref 0 0),(3,i6 0),(4,st a),(5,st c),(6,bo false)] [Ob.cells [st (ByteArray.mk #[]),st (ByteArray.mk #[]),st (ByteArray.mk #[]),st (ByteArray.mk #[]),AV.list LK.nil 0 0 []]]) :=
  around_sound (ans:=[(2,Ans.v (AV.tup [st a,st c,bo d])),(6,Ans.b false)]) (by kernel_rfl) (ai h0 (ai h1 trivial))
def f24_S1 (s0 a1 w1:ByteArray)(q1:Bool):St :=
  stOf 79 [16,17,18,19,20,21] [(0,st s0),(2,AV.ref 0 0),(3,i6 0),(4,st a1),(5,st w1),(6,bo q1)] [Ob.cells [st (ByteArray.mk #[]),st (ByteArray.mk #[]),st (ByteArray.mk #[]),st (ByteArray.mk #[]),AV.list LK.nil 0 0 []]]
theorem f24_g2_t (s0 a1 w1:ByteArray)(q1:Bool)(X:Ext)(call:Caller)(lf:Nat)(a c:ByteArray)(d:Bool)
 (h0:callv X call false 57 [st w1] [Ob.cells [st (ByteArray.mk #[]),st (ByteArray.mk #[]),st (ByteArray.mk #[]),st (ByteArray.mk #[]),AV.list LK.nil 0 0 []]] 0=some (AV.tup [st a,st c,bo d],[Ob.cells [st (ByteArray.mk #[]),st (ByteArray.mk #[]),st (ByteArray.mk #[]),st (ByteArray.mk #[]),AV.list LK.nil 0 0 []]]))
 (h1:d=true):vexec Tryd.prog X call lf 0 fg24 (regN Tryd.f24 2) (f24_S1 s0 a1 w1 q1)=some (Ex.normal,stOf 79 [16,17,18,19,20,21,22,23,24,25,26,27] [(0,st s0),(2,AV.ref 0 0),(3,i6 0),(4,st a1),(5,st c),(6,bo q1),(7,st a),(8,bo true)] [Ob.cells [st (ByteArray.mk #[]),st (ByteArray.mk #[]),st (ByteArray.mk #[]),st (ByteArray.mk #[]),AV.list LK.nil 0 0 []]]) :=
  around_sound (ans:=[(2,Ans.v (AV.tup [st a,st c,bo d])),(6,Ans.b true)]) (by kernel_rfl) (ai h0 (ai h1 trivial))
theorem f24_g2_f (s0 a1 w1:ByteArray)(q1:Bool)(X:Ext)(call:Caller)(lf:Nat)(a c:ByteArray)(d:Bool)
 (h0:callv X call false 57 [st w1] [Ob.cells [st (ByteArray.mk #[]),st (ByteArray.mk #[]),st (ByteArray.mk #[]),st (ByteArray.mk #[]),AV.list LK.nil 0 0 []]] 0=some (AV.tup [st a,st c,bo d],[Ob.cells [st (ByteArray.mk #[]),st (ByteArray.mk #[]),st (ByteArray.mk #[]),st (ByteArray.mk #[]),AV.list LK.nil 0 0 []]]))
 (h1:d=false):vexec Tryd.prog X call lf 0 fg24 (regN Tryd.f24 2) (f24_S1 s0 a1 w1 q1)=some (Ex.normal,stOf 79 [16,17,18,19,20,21,22,23,24,25,26,27] [(0,st s0),(2,AV.ref 0 0),(3,i6 0),(4,st a1),(5,st c),(6,bo q1),(7,st a),(8,bo false)] [Ob.cells [st (ByteArray.mk #[]),st (ByteArray.mk #[]),st (ByteArray.mk #[]),st (ByteArray.mk #[]),AV.list LK.nil 0 0 []]]) :=
  around_sound (ans:=[(2,Ans.v (AV.tup [st a,st c,bo d])),(6,Ans.b false)]) (by kernel_rfl) (ai h0 (ai h1 trivial))
def f24_S2 (s0 a1:ByteArray)(q1:Bool)(a2 w2:ByteArray)(q2:Bool):St :=
  stOf 79 [16,17,18,19,20,21,22,23,24,25,26,27] [(0,st s0),(2,AV.ref 0 0),(3,i6 0),(4,st a1),(5,st w2),(6,bo q1),(7,st a2),(8,bo q2)] [Ob.cells [st (ByteArray.mk #[]),st (ByteArray.mk #[]),st (ByteArray.mk #[]),st (ByteArray.mk #[]),AV.list LK.nil 0 0 []]]
theorem f24_g3_t (s0 a1:ByteArray)(q1:Bool)(a2 w2:ByteArray)(q2:Bool)(X:Ext)(call:Caller)(lf:Nat)(a c:ByteArray)(d:Bool)
 (h0:callv X call false 57 [st w2] [Ob.cells [st (ByteArray.mk #[]),st (ByteArray.mk #[]),st (ByteArray.mk #[]),st (ByteArray.mk #[]),AV.list LK.nil 0 0 []]] 0=some (AV.tup [st a,st c,bo d],[Ob.cells [st (ByteArray.mk #[]),st (ByteArray.mk #[]),st (ByteArray.mk #[]),st (ByteArray.mk #[]),AV.list LK.nil 0 0 []]]))
 (h1:d=true):vexec Tryd.prog X call lf 0 fg24 (regN Tryd.f24 3) (f24_S2 s0 a1 q1 a2 w2 q2)=some (Ex.normal,stOf 79 [16,17,18,19,20,21,22,23,24,25,26,27,28,29,30,31,32,33] [(0,st s0),(2,AV.ref 0 0),(3,i6 0),(4,st a1),(5,st c),(6,bo q1),(7,st a2),(8,bo q2),(9,st a),(10,bo true)] [Ob.cells [st (ByteArray.mk #[]),st (ByteArray.mk #[]),st (ByteArray.mk #[]),st (ByteArray.mk #[]),AV.list LK.nil 0 0 []]]) :=
  around_sound (ans:=[(2,Ans.v (AV.tup [st a,st c,bo d])),(6,Ans.b true)]) (by kernel_rfl) (ai h0 (ai h1 trivial))
theorem f24_g3_f (s0 a1:ByteArray)(q1:Bool)(a2 w2:ByteArray)(q2:Bool)(X:Ext)(call:Caller)(lf:Nat)(a c:ByteArray)(d:Bool)
 (h0:callv X call false 57 [st w2] [Ob.cells [st (ByteArray.mk #[]),st (ByteArray.mk #[]),st (ByteArray.mk #[]),st (ByteArray.mk #[]),AV.list LK.nil 0 0 []]] 0=some (AV.tup [st a,st c,bo d],[Ob.cells [st (ByteArray.mk #[]),st (ByteArray.mk #[]),st (ByteArray.mk #[]),st (ByteArray.mk #[]),AV.list LK.nil 0 0 []]]))
 (h1:d=false):vexec Tryd.prog X call lf 0 fg24 (regN Tryd.f24 3) (f24_S2 s0 a1 q1 a2 w2 q2)=some (Ex.normal,stOf 79 [16,17,18,19,20,21,22,23,24,25,26,27,28,29,30,31,32,33] [(0,st s0),(2,AV.ref 0 0),(3,i6 0),(4,st a1),(5,st c),(6,bo q1),(7,st a2),(8,bo q2),(9,st a),(10,bo false)] [Ob.cells [st (ByteArray.mk #[]),st (ByteArray.mk #[]),st (ByteArray.mk #[]),st (ByteArray.mk #[]),AV.list LK.nil 0 0 []]]) :=
  around_sound (ans:=[(2,Ans.v (AV.tup [st a,st c,bo d])),(6,Ans.b false)]) (by kernel_rfl) (ai h0 (ai h1 trivial))
def f24_S3 (s0 a1:ByteArray)(q1:Bool)(a2:ByteArray)(q2:Bool)(a3 w3:ByteArray)(q3:Bool):St :=
  stOf 79 [16,17,18,19,20,21,22,23,24,25,26,27,28,29,30,31,32,33] [(0,st s0),(2,AV.ref 0 0),(3,i6 0),(4,st a1),(5,st w3),(6,bo q1),(7,st a2),(8,bo q2),(9,st a3),(10,bo q3)] [Ob.cells [st (ByteArray.mk #[]),st (ByteArray.mk #[]),st (ByteArray.mk #[]),st (ByteArray.mk #[]),AV.list LK.nil 0 0 []]]
theorem f24_g4_t (s0 a1:ByteArray)(q1:Bool)(a2:ByteArray)(q2:Bool)(a3 w3:ByteArray)(q3:Bool)(X:Ext)(call:Caller)(lf:Nat)(a c:ByteArray)(d:Bool)
 (h0:callv X call false 57 [st w3] [Ob.cells [st (ByteArray.mk #[]),st (ByteArray.mk #[]),st (ByteArray.mk #[]),st (ByteArray.mk #[]),AV.list LK.nil 0 0 []]] 0=some (AV.tup [st a,st c,bo d],[Ob.cells [st (ByteArray.mk #[]),st (ByteArray.mk #[]),st (ByteArray.mk #[]),st (ByteArray.mk #[]),AV.list LK.nil 0 0 []]]))
 (h1:d=true):vexec Tryd.prog X call lf 0 fg24 (regN Tryd.f24 4) (f24_S3 s0 a1 q1 a2 q2 a3 w3 q3)=some (Ex.normal,stOf 79 [16,17,18,19,20,21,22,23,24,25,26,27,28,29,30,31,32,33,34,35,36,37,38,39] [(0,st s0),(2,AV.ref 0 0),(3,i6 0),(4,st a1),(5,st c),(6,bo q1),(7,st a2),(8,bo q2),(9,st a3),(10,bo q3),(11,st a),(12,bo true)] [Ob.cells [st (ByteArray.mk #[]),st (ByteArray.mk #[]),st (ByteArray.mk #[]),st (ByteArray.mk #[]),AV.list LK.nil 0 0 []]]) :=
  around_sound (ans:=[(2,Ans.v (AV.tup [st a,st c,bo d])),(6,Ans.b true)]) (by kernel_rfl) (ai h0 (ai h1 trivial))
theorem f24_g4_f (s0 a1:ByteArray)(q1:Bool)(a2:ByteArray)(q2:Bool)(a3 w3:ByteArray)(q3:Bool)(X:Ext)(call:Caller)(lf:Nat)(a c:ByteArray)(d:Bool)
 (h0:callv X call false 57 [st w3] [Ob.cells [st (ByteArray.mk #[]),st (ByteArray.mk #[]),st (ByteArray.mk #[]),st (ByteArray.mk #[]),AV.list LK.nil 0 0 []]] 0=some (AV.tup [st a,st c,bo d],[Ob.cells [st (ByteArray.mk #[]),st (ByteArray.mk #[]),st (ByteArray.mk #[]),st (ByteArray.mk #[]),AV.list LK.nil 0 0 []]]))
 (h1:d=false):vexec Tryd.prog X call lf 0 fg24 (regN Tryd.f24 4) (f24_S3 s0 a1 q1 a2 q2 a3 w3 q3)=some (Ex.normal,stOf 79 [16,17,18,19,20,21,22,23,24,25,26,27,28,29,30,31,32,33,34,35,36,37,38,39] [(0,st s0),(2,AV.ref 0 0),(3,i6 0),(4,st a1),(5,st c),(6,bo q1),(7,st a2),(8,bo q2),(9,st a3),(10,bo q3),(11,st a),(12,bo false)] [Ob.cells [st (ByteArray.mk #[]),st (ByteArray.mk #[]),st (ByteArray.mk #[]),st (ByteArray.mk #[]),AV.list LK.nil 0 0 []]]) :=
  around_sound (ans:=[(2,Ans.v (AV.tup [st a,st c,bo d])),(6,Ans.b false)]) (by kernel_rfl) (ai h0 (ai h1 trivial))
def f24_S4 (s0 a1:ByteArray)(q1:Bool)(a2:ByteArray)(q2:Bool)(a3:ByteArray)(q3:Bool)(a4 w4:ByteArray)(q4:Bool):St :=
  stOf 79 [16,17,18,19,20,21,22,23,24,25,26,27,28,29,30,31,32,33,34,35,36,37,38,39] [(0,st s0),(2,AV.ref 0 0),(3,i6 0),(4,st a1),(5,st w4),(6,bo q1),(7,st a2),(8,bo q2),(9,st a3),(10,bo q3),(11,st a4),(12,bo q4)] [Ob.cells [st (ByteArray.mk #[]),st (ByteArray.mk #[]),st (ByteArray.mk #[]),st (ByteArray.mk #[]),AV.list LK.nil 0 0 []]]
theorem f24_g5_ttt (s0 a1:ByteArray)(q1:Bool)(a2:ByteArray)(q2:Bool)(a3:ByteArray)(q3:Bool)(a4 w4:ByteArray)(q4:Bool)(X:Ext)(call:Caller)(lf:Nat)
 (h0:q1=true)
 (h1:q2=true)
 (h2:q3=true):vexec Tryd.prog X call lf 0 fg24 (regN Tryd.f24 5) (f24_S4 s0 a1 q1 a2 q2 a3 q3 a4 w4 q4)=some (Ex.normal,stOf 79 [16,17,18,19,20,21,22,23,24,25,26,27,28,29,30,31,32,33,34,35,36,37,38,39,40,41,42,43,44,45,46,47,48] [(0,st s0),(2,AV.ref 0 0),(3,i6 0),(4,st a1),(5,st w4),(6,bo q1),(7,st a2),(8,bo q2),(9,st a3),(10,bo q3),(11,st a4),(12,bo q4),(49,bo false)] [Ob.cells [st (ByteArray.mk #[]),st (ByteArray.mk #[]),st (ByteArray.mk #[]),st (ByteArray.mk #[]),AV.list LK.nil 0 0 []]]) :=
  around_sound (ans:=[(1,Ans.b true),(5,Ans.b true),(11,Ans.b true)]) (by kernel_rfl) (ai h0 (ai h1 (ai h2 trivial)))
def f24_S5 (s0 a1:ByteArray)(q1:Bool)(a2:ByteArray)(q2:Bool)(a3:ByteArray)(q3:Bool)(a4 w4:ByteArray)(q4:Bool):St :=
  stOf 79 [16,17,18,19,20,21,22,23,24,25,26,27,28,29,30,31,32,33,34,35,36,37,38,39,40,41,42,43,44,45,46,47,48] [(0,st s0),(2,AV.ref 0 0),(3,i6 0),(4,st a1),(5,st w4),(6,bo q1),(7,st a2),(8,bo q2),(9,st a3),(10,bo q3),(11,st a4),(12,bo q4),(49,bo true)] [Ob.cells [st (ByteArray.mk #[]),st (ByteArray.mk #[]),st (ByteArray.mk #[]),st (ByteArray.mk #[]),AV.list LK.nil 0 0 []]]
theorem f24_g5_ttf (s0 a1:ByteArray)(q1:Bool)(a2:ByteArray)(q2:Bool)(a3:ByteArray)(q3:Bool)(a4 w4:ByteArray)(q4:Bool)(X:Ext)(call:Caller)(lf:Nat)
 (h0:q1=true)
 (h1:q2=true)
 (h2:q3=false):vexec Tryd.prog X call lf 0 fg24 (regN Tryd.f24 5) (f24_S4 s0 a1 q1 a2 q2 a3 q3 a4 w4 q4)=some (Ex.normal,(f24_S5 s0 a1 q1 a2 q2 a3 q3 a4 w4 q4)) :=
  around_sound (ans:=[(1,Ans.b true),(5,Ans.b true),(11,Ans.b false)]) (by kernel_rfl) (ai h0 (ai h1 (ai h2 trivial)))
theorem f24_g5_tf (s0 a1:ByteArray)(q1:Bool)(a2:ByteArray)(q2:Bool)(a3:ByteArray)(q3:Bool)(a4 w4:ByteArray)(q4:Bool)(X:Ext)(call:Caller)(lf:Nat)
 (h0:q1=true)
 (h1:q2=false):vexec Tryd.prog X call lf 0 fg24 (regN Tryd.f24 5) (f24_S4 s0 a1 q1 a2 q2 a3 q3 a4 w4 q4)=some (Ex.normal,(f24_S5 s0 a1 q1 a2 q2 a3 q3 a4 w4 q4)) :=
  around_sound (ans:=[(1,Ans.b true),(5,Ans.b false)]) (by kernel_rfl) (ai h0 (ai h1 trivial))
theorem f24_g5_f (s0 a1:ByteArray)(q1:Bool)(a2:ByteArray)(q2:Bool)(a3:ByteArray)(q3:Bool)(a4 w4:ByteArray)(q4:Bool)(X:Ext)(call:Caller)(lf:Nat)
 (h0:q1=false):vexec Tryd.prog X call lf 0 fg24 (regN Tryd.f24 5) (f24_S4 s0 a1 q1 a2 q2 a3 q3 a4 w4 q4)=some (Ex.normal,(f24_S5 s0 a1 q1 a2 q2 a3 q3 a4 w4 q4)) :=
  around_sound (ans:=[(1,Ans.b false)]) (by kernel_rfl) (ai h0 trivial)
def f24_S6 (s0 a1:ByteArray)(q1:Bool)(a2:ByteArray)(q2:Bool)(a3:ByteArray)(q3:Bool)(a4 w4:ByteArray)(q4 b49:Bool):St :=
  stOf 79 [16,17,18,19,20,21,22,23,24,25,26,27,28,29,30,31,32,33,34,35,36,37,38,39,40,41,42,43,44,45,46,47,48] [(0,st s0),(2,AV.ref 0 0),(3,i6 0),(4,st a1),(5,st w4),(6,bo q1),(7,st a2),(8,bo q2),(9,st a3),(10,bo q3),(11,st a4),(12,bo q4),(49,bo b49)] [Ob.cells [st (ByteArray.mk #[]),st (ByteArray.mk #[]),st (ByteArray.mk #[]),st (ByteArray.mk #[]),AV.list LK.nil 0 0 []]]
theorem f24_pt (s0 a1 w1:ByteArray)(q1:Bool)(a2 w2:ByteArray)(q2:Bool)(a3 w3:ByteArray)(q3:Bool)(a4 w4:ByteArray)(q4 b49:Bool)(X:Ext)(call:Caller)(lf:Nat)
 (h0:vexec Tryd.prog X call lf 0 fg24 (regN Tryd.f24 1) (f24_S0 s0)=some (Ex.normal,(f24_S1 s0 a1 w1 q1)))
 (h1:vexec Tryd.prog X call lf 0 fg24 (regN Tryd.f24 2) (f24_S1 s0 a1 w1 q1)=some (Ex.normal,(f24_S2 s0 a1 q1 a2 w2 q2)))
 (h2:vexec Tryd.prog X call lf 0 fg24 (regN Tryd.f24 3) (f24_S2 s0 a1 q1 a2 w2 q2)=some (Ex.normal,(f24_S3 s0 a1 q1 a2 q2 a3 w3 q3)))
 (h3:vexec Tryd.prog X call lf 0 fg24 (regN Tryd.f24 4) (f24_S3 s0 a1 q1 a2 q2 a3 w3 q3)=some (Ex.normal,(f24_S4 s0 a1 q1 a2 q2 a3 q3 a4 w4 q4)))
 (h4:vexec Tryd.prog X call lf 0 fg24 (regN Tryd.f24 5) (f24_S4 s0 a1 q1 a2 q2 a3 q3 a4 w4 q4)=some (Ex.normal,(f24_S6 s0 a1 q1 a2 q2 a3 q3 a4 w4 q4 b49)))
 (h5:b49=true):vbody Tryd.prog X call lf fg24 Tryd.f24 (codeOf Tryd.f24) [st s0] [] 0=some (AV.tup [AV.agg [st (ByteArray.mk #[]),st (ByteArray.mk #[]),st (ByteArray.mk #[]),st (ByteArray.mk #[]),AV.list LK.nil 0 0 []],i6 3],[Ob.cells [st (ByteArray.mk #[]),st (ByteArray.mk #[]),st (ByteArray.mk #[]),st (ByteArray.mk #[]),AV.list LK.nil 0 0 []]]) :=
  along_sound (ans:=[(3,Ans.l Ex.normal (f24_S1 s0 a1 w1 q1)),(4,Ans.l Ex.normal (f24_S2 s0 a1 q1 a2 w2 q2)),(5,Ans.l Ex.normal (f24_S3 s0 a1 q1 a2 q2 a3 w3 q3)),(6,Ans.l Ex.normal (f24_S4 s0 a1 q1 a2 q2 a3 q3 a4 w4 q4)),(7,Ans.l Ex.normal (f24_S6 s0 a1 q1 a2 q2 a3 q3 a4 w4 q4 b49)),(8,Ans.b true)]) (by kernel_rfl) (ai h0 (ai h1 (ai h2 (ai h3 (ai h4 (ai h5 trivial))))))
def f24_S7 (s0 a1:ByteArray)(q1:Bool)(a2:ByteArray)(q2:Bool)(a3:ByteArray)(q3:Bool)(a4 w4:ByteArray)(q4 b49:Bool)(x54 x56:ByteArray)(a:Nat)(b:List AV):St :=
  stOf 79 [16,17,18,19,20,21,22,23,24,25,26,27,28,29,30,31,32,33,34,35,36,37,38,39,40,41,42,43,44,45,46,47,48,51,52,53,54,55,56,57,59,60,61,62,63,64,67,68] [(0,st s0),(2,AV.ref 0 0),(3,i6 0),(4,st a1),(5,st w4),(6,bo q1),(7,st a2),(8,bo q2),(9,st a3),(10,bo q3),(11,st a4),(12,bo q4),(13,AV.ref 1 0),(14,lro a 2 b),(15,bo true),(49,bo b49),(58,bo true),(65,bo false)] [Ob.cells [st (ByteArray.mk #[]),st (ByteArray.mk #[]),st (ByteArray.mk #[]),st (ByteArray.mk #[]),AV.list LK.nil 0 0 []],Ob.cells [st a1,st a2,st x54,st x56,lro a 2 b]]
def f24_S8 (s0 a1:ByteArray)(q1:Bool)(a2:ByteArray)(q2:Bool)(a3:ByteArray)(q3:Bool)(a4 w4:ByteArray)(q4 b49:Bool)(x54 x56:ByteArray)(a:Nat)(b:List AV):St :=
  stOf 79 [16,17,18,19,20,21,22,23,24,25,26,27,28,29,30,31,32,33,34,35,36,37,38,39,40,41,42,43,44,45,46,47,48,51,52,53,54,55,56,57,59,60,61,62,63,64,67,68,69,70,71,72,73,74,75] [(0,st s0),(2,AV.ref 0 0),(3,i6 0),(4,st a1),(5,st w4),(6,bo q1),(7,st a2),(8,bo q2),(9,st a3),(10,bo q3),(11,st a4),(12,bo q4),(13,AV.ref 1 0),(14,lro a 2 b),(15,bo true),(49,bo b49),(58,bo true),(65,bo false),(76,bo true)] [Ob.cells [st (ByteArray.mk #[]),st (ByteArray.mk #[]),st (ByteArray.mk #[]),st (ByteArray.mk #[]),AV.list LK.nil 0 0 []],Ob.cells [st a1,st a2,st x54,st x56,lro a 2 b]]
theorem f24_g13_t (s0 a1:ByteArray)(q1:Bool)(a2:ByteArray)(q2:Bool)(a3:ByteArray)(q3:Bool)(a4 w4:ByteArray)(q4 b49:Bool)(X:Ext)(call:Caller)(lf:Nat)(x54 x56:ByteArray)(a:Nat)(c:List AV)(x70:ByteArray)
 (h0:callv X call false 22 [AV.agg [st a1,st a2,st x54,st x56,lro a 2 c]] [Ob.cells [st (ByteArray.mk #[]),st (ByteArray.mk #[]),st (ByteArray.mk #[]),st (ByteArray.mk #[]),AV.list LK.nil 0 0 []],Ob.cells [st a1,st a2,st x54,st x56,lro a 2 c]] 0=some (st x70,[Ob.cells [st (ByteArray.mk #[]),st (ByteArray.mk #[]),st (ByteArray.mk #[]),st (ByteArray.mk #[]),AV.list LK.nil 0 0 []],Ob.cells [st a1,st a2,st x54,st x56,lro a 2 c]]))
 (h1:(!ByteArray.toList x70 == ByteArray.toList s0)=true):vexec Tryd.prog X call lf 0 fg24 (regN Tryd.f24 13) (f24_S7 s0 a1 q1 a2 q2 a3 q3 a4 w4 q4 b49 x54 x56 a c)=some (Ex.normal,(f24_S8 s0 a1 q1 a2 q2 a3 q3 a4 w4 q4 b49 x54 x56 a c)) :=
  around_sound (ans:=[(2,Ans.v (st x70)),(4,Ans.b true)]) (by kernel_rfl) (ai h0 (ai h1 trivial))
theorem f24_g13_ff (s0 a1:ByteArray)(q1:Bool)(a2:ByteArray)(q2:Bool)(a3:ByteArray)(q3:Bool)(a4 w4:ByteArray)(q4 b49:Bool)(X:Ext)(call:Caller)(lf:Nat)(x54 x56:ByteArray)(a:Nat)(c:List AV)(x70:ByteArray)
 (h0:callv X call false 22 [AV.agg [st a1,st a2,st x54,st x56,lro a 2 c]] [Ob.cells [st (ByteArray.mk #[]),st (ByteArray.mk #[]),st (ByteArray.mk #[]),st (ByteArray.mk #[]),AV.list LK.nil 0 0 []],Ob.cells [st a1,st a2,st x54,st x56,lro a 2 c]] 0=some (st x70,[Ob.cells [st (ByteArray.mk #[]),st (ByteArray.mk #[]),st (ByteArray.mk #[]),st (ByteArray.mk #[]),AV.list LK.nil 0 0 []],Ob.cells [st a1,st a2,st x54,st x56,lro a 2 c]]))
 (h1:(!ByteArray.toList x70 == ByteArray.toList s0)=false)
 (h2:(ByteArray.toList s0 == ByteArray.toList (ByteArray.mk #[]))=false):vexec Tryd.prog X call lf 0 fg24 (regN Tryd.f24 13) (f24_S7 s0 a1 q1 a2 q2 a3 q3 a4 w4 q4 b49 x54 x56 a c)=some (Ex.normal,stOf 79 [16,17,18,19,20,21,22,23,24,25,26,27,28,29,30,31,32,33,34,35,36,37,38,39,40,41,42,43,44,45,46,47,48,51,52,53,54,55,56,57,59,60,61,62,63,64,67,68,69,70,71,72,73,74,75] [(0,st s0),(2,AV.ref 0 0),(3,i6 0),(4,st a1),(5,st w4),(6,bo q1),(7,st a2),(8,bo q2),(9,st a3),(10,bo q3),(11,st a4),(12,bo q4),(13,AV.ref 1 0),(14,lro a 2 c),(15,bo true),(49,bo b49),(58,bo true),(65,bo false),(76,bo false)] [Ob.cells [st (ByteArray.mk #[]),st (ByteArray.mk #[]),st (ByteArray.mk #[]),st (ByteArray.mk #[]),AV.list LK.nil 0 0 []],Ob.cells [st a1,st a2,st x54,st x56,lro a 2 c]]) :=
  around_sound (ans:=[(2,Ans.v (st x70)),(4,Ans.b false),(9,Ans.b false)]) (by kernel_rfl) (ai h0 (ai h1 (ai h2 trivial)))
def f24_S9 (s0 a1:ByteArray)(q1:Bool)(a2:ByteArray)(q2:Bool)(a3:ByteArray)(q3:Bool)(a4 w4:ByteArray)(q4 b49 b76:Bool)(x54 x56:ByteArray)(a:Nat)(b:List AV):St :=
  stOf 79 [16,17,18,19,20,21,22,23,24,25,26,27,28,29,30,31,32,33,34,35,36,37,38,39,40,41,42,43,44,45,46,47,48,51,52,53,54,55,56,57,59,60,61,62,63,64,67,68,69,70,71,72,73,74,75] [(0,st s0),(2,AV.ref 0 0),(3,i6 0),(4,st a1),(5,st w4),(6,bo q1),(7,st a2),(8,bo q2),(9,st a3),(10,bo q3),(11,st a4),(12,bo q4),(13,AV.ref 1 0),(14,lro a 2 b),(15,bo true),(49,bo b49),(58,bo true),(65,bo false),(76,bo b76)] [Ob.cells [st (ByteArray.mk #[]),st (ByteArray.mk #[]),st (ByteArray.mk #[]),st (ByteArray.mk #[]),AV.list LK.nil 0 0 []],Ob.cells [st a1,st a2,st x54,st x56,lro a 2 b]]
theorem f24_pfttt (s0 a1 w1:ByteArray)(q1:Bool)(a2 w2:ByteArray)(q2:Bool)(a3 w3:ByteArray)(q3:Bool)(a4 w4:ByteArray)(q4 b49 b76:Bool)(X:Ext)(call:Caller)(lf:Nat)(x54 x56:ByteArray)(a:Nat)(c:List AV)(d:Bool)
 (h0:vexec Tryd.prog X call lf 0 fg24 (regN Tryd.f24 1) (f24_S0 s0)=some (Ex.normal,(f24_S1 s0 a1 w1 q1)))
 (h1:vexec Tryd.prog X call lf 0 fg24 (regN Tryd.f24 2) (f24_S1 s0 a1 w1 q1)=some (Ex.normal,(f24_S2 s0 a1 q1 a2 w2 q2)))
 (h2:vexec Tryd.prog X call lf 0 fg24 (regN Tryd.f24 3) (f24_S2 s0 a1 q1 a2 w2 q2)=some (Ex.normal,(f24_S3 s0 a1 q1 a2 q2 a3 w3 q3)))
 (h3:vexec Tryd.prog X call lf 0 fg24 (regN Tryd.f24 4) (f24_S3 s0 a1 q1 a2 q2 a3 w3 q3)=some (Ex.normal,(f24_S4 s0 a1 q1 a2 q2 a3 q3 a4 w4 q4)))
 (h4:vexec Tryd.prog X call lf 0 fg24 (regN Tryd.f24 5) (f24_S4 s0 a1 q1 a2 q2 a3 q3 a4 w4 q4)=some (Ex.normal,(f24_S6 s0 a1 q1 a2 q2 a3 q3 a4 w4 q4 b49)))
 (h5:b49=false)
 (h6:callv X call false 58 [st a3] [Ob.cells [st (ByteArray.mk #[]),st (ByteArray.mk #[]),st (ByteArray.mk #[]),st (ByteArray.mk #[]),AV.list LK.nil 0 0 []]] 0=some (st x54,[Ob.cells [st (ByteArray.mk #[]),st (ByteArray.mk #[]),st (ByteArray.mk #[]),st (ByteArray.mk #[]),AV.list LK.nil 0 0 []]]))
 (h7:callv X call false 58 [st a4] [Ob.cells [st (ByteArray.mk #[]),st (ByteArray.mk #[]),st (ByteArray.mk #[]),st (ByteArray.mk #[]),AV.list LK.nil 0 0 []]] 0=some (st x56,[Ob.cells [st (ByteArray.mk #[]),st (ByteArray.mk #[]),st (ByteArray.mk #[]),st (ByteArray.mk #[]),AV.list LK.nil 0 0 []]]))
 (h8:q4=true)
 (h9:callv X call false 59 [st w4] [Ob.cells [st (ByteArray.mk #[]),st (ByteArray.mk #[]),st (ByteArray.mk #[]),st (ByteArray.mk #[]),AV.list LK.nil 0 0 []],Ob.cells [st a1,st a2,st x54,st x56,AV.list LK.nil 0 0 []]] 0=some (AV.tup [lro a 2 c,bo d],[Ob.cells [st (ByteArray.mk #[]),st (ByteArray.mk #[]),st (ByteArray.mk #[]),st (ByteArray.mk #[]),AV.list LK.nil 0 0 []],Ob.cells [st a1,st a2,st x54,st x56,AV.list LK.nil 0 0 []]]))
 (h10:d=true)
 (h11:vexec Tryd.prog X call lf 0 fg24 (regN Tryd.f24 13) (f24_S7 s0 a1 q1 a2 q2 a3 q3 a4 w4 q4 b49 x54 x56 a c)=some (Ex.normal,(f24_S9 s0 a1 q1 a2 q2 a3 q3 a4 w4 q4 b49 b76 x54 x56 a c)))
 (h12:b76=true):vbody Tryd.prog X call lf fg24 Tryd.f24 (codeOf Tryd.f24) [st s0] [] 0=some (AV.tup [AV.agg [st (ByteArray.mk #[]),st (ByteArray.mk #[]),st (ByteArray.mk #[]),st (ByteArray.mk #[]),AV.list LK.nil 0 0 []],i6 3],[Ob.cells [st (ByteArray.mk #[]),st (ByteArray.mk #[]),st (ByteArray.mk #[]),st (ByteArray.mk #[]),AV.list LK.nil 0 0 []],Ob.cells [st a1,st a2,st x54,st x56,lro a 2 c]]) :=
  along_sound (ans:=[(3,Ans.l Ex.normal (f24_S1 s0 a1 w1 q1)),(4,Ans.l Ex.normal (f24_S2 s0 a1 q1 a2 w2 q2)),(5,Ans.l Ex.normal (f24_S3 s0 a1 q1 a2 q2 a3 w3 q3)),(6,Ans.l Ex.normal (f24_S4 s0 a1 q1 a2 q2 a3 q3 a4 w4 q4)),(7,Ans.l Ex.normal (f24_S6 s0 a1 q1 a2 q2 a3 q3 a4 w4 q4 b49)),(8,Ans.b false),(13,Ans.v (st x54)),(15,Ans.v (st x56)),(20,Ans.b true),(24,Ans.v (AV.tup [lro a 2 c,bo d])),(27,Ans.b true),(38,Ans.l Ex.normal (f24_S9 s0 a1 q1 a2 q2 a3 q3 a4 w4 q4 b49 b76 x54 x56 a c)),(39,Ans.b true)]) (by kernel_rfl) (ai h0 (ai h1 (ai h2 (ai h3 (ai h4 (ai h5 (ai h6 (ai h7 (ai h8 (ai h9 (ai h10 (ai h11 (ai h12 trivial)))))))))))))
theorem f24_pfttf (s0 a1 w1:ByteArray)(q1:Bool)(a2 w2:ByteArray)(q2:Bool)(a3 w3:ByteArray)(q3:Bool)(a4 w4:ByteArray)(q4 b49 b76:Bool)(X:Ext)(call:Caller)(lf:Nat)(x54 x56:ByteArray)(a:Nat)(d:List AV)(e:Bool)(rE:AV)(sE:List Ob)
 (h0:vexec Tryd.prog X call lf 0 fg24 (regN Tryd.f24 1) (f24_S0 s0)=some (Ex.normal,(f24_S1 s0 a1 w1 q1)))
 (h1:vexec Tryd.prog X call lf 0 fg24 (regN Tryd.f24 2) (f24_S1 s0 a1 w1 q1)=some (Ex.normal,(f24_S2 s0 a1 q1 a2 w2 q2)))
 (h2:vexec Tryd.prog X call lf 0 fg24 (regN Tryd.f24 3) (f24_S2 s0 a1 q1 a2 w2 q2)=some (Ex.normal,(f24_S3 s0 a1 q1 a2 q2 a3 w3 q3)))
 (h3:vexec Tryd.prog X call lf 0 fg24 (regN Tryd.f24 4) (f24_S3 s0 a1 q1 a2 q2 a3 w3 q3)=some (Ex.normal,(f24_S4 s0 a1 q1 a2 q2 a3 q3 a4 w4 q4)))
 (h4:vexec Tryd.prog X call lf 0 fg24 (regN Tryd.f24 5) (f24_S4 s0 a1 q1 a2 q2 a3 q3 a4 w4 q4)=some (Ex.normal,(f24_S6 s0 a1 q1 a2 q2 a3 q3 a4 w4 q4 b49)))
 (h5:b49=false)
 (h6:callv X call false 58 [st a3] [Ob.cells [st (ByteArray.mk #[]),st (ByteArray.mk #[]),st (ByteArray.mk #[]),st (ByteArray.mk #[]),AV.list LK.nil 0 0 []]] 0=some (st x54,[Ob.cells [st (ByteArray.mk #[]),st (ByteArray.mk #[]),st (ByteArray.mk #[]),st (ByteArray.mk #[]),AV.list LK.nil 0 0 []]]))
 (h7:callv X call false 58 [st a4] [Ob.cells [st (ByteArray.mk #[]),st (ByteArray.mk #[]),st (ByteArray.mk #[]),st (ByteArray.mk #[]),AV.list LK.nil 0 0 []]] 0=some (st x56,[Ob.cells [st (ByteArray.mk #[]),st (ByteArray.mk #[]),st (ByteArray.mk #[]),st (ByteArray.mk #[]),AV.list LK.nil 0 0 []]]))
 (h8:q4=true)
 (h9:callv X call false 59 [st w4] [Ob.cells [st (ByteArray.mk #[]),st (ByteArray.mk #[]),st (ByteArray.mk #[]),st (ByteArray.mk #[]),AV.list LK.nil 0 0 []],Ob.cells [st a1,st a2,st x54,st x56,AV.list LK.nil 0 0 []]] 0=some (AV.tup [lro a 2 d,bo e],[Ob.cells [st (ByteArray.mk #[]),st (ByteArray.mk #[]),st (ByteArray.mk #[]),st (ByteArray.mk #[]),AV.list LK.nil 0 0 []],Ob.cells [st a1,st a2,st x54,st x56,AV.list LK.nil 0 0 []]]))
 (h10:e=true)
 (h11:vexec Tryd.prog X call lf 0 fg24 (regN Tryd.f24 13) (f24_S7 s0 a1 q1 a2 q2 a3 q3 a4 w4 q4 b49 x54 x56 a d)=some (Ex.normal,(f24_S9 s0 a1 q1 a2 q2 a3 q3 a4 w4 q4 b49 b76 x54 x56 a d)))
 (h12:b76=false)
 (h13:vend1 [] 0 [Ob.cells [st a1,st a2,st x54,st x56,lro a 2 d],Ob.cells [st a1,st a2,st x54,st x56,lro a 2 d]] [AV.agg [st a1,st a2,st x54,st x56,lro a 2 d],i6 0]=some (rE,sE)):vbody Tryd.prog X call lf fg24 Tryd.f24 (codeOf Tryd.f24) [st s0] [] 0=some (rE,sE) :=
  along_sound (ans:=[(3,Ans.l Ex.normal (f24_S1 s0 a1 w1 q1)),(4,Ans.l Ex.normal (f24_S2 s0 a1 q1 a2 w2 q2)),(5,Ans.l Ex.normal (f24_S3 s0 a1 q1 a2 q2 a3 w3 q3)),(6,Ans.l Ex.normal (f24_S4 s0 a1 q1 a2 q2 a3 q3 a4 w4 q4)),(7,Ans.l Ex.normal (f24_S6 s0 a1 q1 a2 q2 a3 q3 a4 w4 q4 b49)),(8,Ans.b false),(13,Ans.v (st x54)),(15,Ans.v (st x56)),(20,Ans.b true),(24,Ans.v (AV.tup [lro a 2 d,bo e])),(27,Ans.b true),(38,Ans.l Ex.normal (f24_S9 s0 a1 q1 a2 q2 a3 q3 a4 w4 q4 b49 b76 x54 x56 a d)),(39,Ans.b false),(44,Ans.c rE sE)]) (by kernel_rfl) (ai h0 (ai h1 (ai h2 (ai h3 (ai h4 (ai h5 (ai h6 (ai h7 (ai h8 (ai h9 (ai h10 (ai h11 (ai h12 (ai h13 trivial))))))))))))))
theorem f24_pftf (s0 a1 w1:ByteArray)(q1:Bool)(a2 w2:ByteArray)(q2:Bool)(a3 w3:ByteArray)(q3:Bool)(a4 w4:ByteArray)(q4 b49:Bool)(X:Ext)(call:Caller)(lf:Nat)(x54 x56:ByteArray)(a:Nat)(c:List AV)(d:Bool)
 (h0:vexec Tryd.prog X call lf 0 fg24 (regN Tryd.f24 1) (f24_S0 s0)=some (Ex.normal,(f24_S1 s0 a1 w1 q1)))
 (h1:vexec Tryd.prog X call lf 0 fg24 (regN Tryd.f24 2) (f24_S1 s0 a1 w1 q1)=some (Ex.normal,(f24_S2 s0 a1 q1 a2 w2 q2)))
 (h2:vexec Tryd.prog X call lf 0 fg24 (regN Tryd.f24 3) (f24_S2 s0 a1 q1 a2 w2 q2)=some (Ex.normal,(f24_S3 s0 a1 q1 a2 q2 a3 w3 q3)))
 (h3:vexec Tryd.prog X call lf 0 fg24 (regN Tryd.f24 4) (f24_S3 s0 a1 q1 a2 q2 a3 w3 q3)=some (Ex.normal,(f24_S4 s0 a1 q1 a2 q2 a3 q3 a4 w4 q4)))
 (h4:vexec Tryd.prog X call lf 0 fg24 (regN Tryd.f24 5) (f24_S4 s0 a1 q1 a2 q2 a3 q3 a4 w4 q4)=some (Ex.normal,(f24_S6 s0 a1 q1 a2 q2 a3 q3 a4 w4 q4 b49)))
 (h5:b49=false)
 (h6:callv X call false 58 [st a3] [Ob.cells [st (ByteArray.mk #[]),st (ByteArray.mk #[]),st (ByteArray.mk #[]),st (ByteArray.mk #[]),AV.list LK.nil 0 0 []]] 0=some (st x54,[Ob.cells [st (ByteArray.mk #[]),st (ByteArray.mk #[]),st (ByteArray.mk #[]),st (ByteArray.mk #[]),AV.list LK.nil 0 0 []]]))
 (h7:callv X call false 58 [st a4] [Ob.cells [st (ByteArray.mk #[]),st (ByteArray.mk #[]),st (ByteArray.mk #[]),st (ByteArray.mk #[]),AV.list LK.nil 0 0 []]] 0=some (st x56,[Ob.cells [st (ByteArray.mk #[]),st (ByteArray.mk #[]),st (ByteArray.mk #[]),st (ByteArray.mk #[]),AV.list LK.nil 0 0 []]]))
 (h8:q4=true)
 (h9:callv X call false 59 [st w4] [Ob.cells [st (ByteArray.mk #[]),st (ByteArray.mk #[]),st (ByteArray.mk #[]),st (ByteArray.mk #[]),AV.list LK.nil 0 0 []],Ob.cells [st a1,st a2,st x54,st x56,AV.list LK.nil 0 0 []]] 0=some (AV.tup [lro a 2 c,bo d],[Ob.cells [st (ByteArray.mk #[]),st (ByteArray.mk #[]),st (ByteArray.mk #[]),st (ByteArray.mk #[]),AV.list LK.nil 0 0 []],Ob.cells [st a1,st a2,st x54,st x56,AV.list LK.nil 0 0 []]]))
 (h10:d=false):vbody Tryd.prog X call lf fg24 Tryd.f24 (codeOf Tryd.f24) [st s0] [] 0=some (AV.tup [AV.agg [st (ByteArray.mk #[]),st (ByteArray.mk #[]),st (ByteArray.mk #[]),st (ByteArray.mk #[]),AV.list LK.nil 0 0 []],i6 3],[Ob.cells [st (ByteArray.mk #[]),st (ByteArray.mk #[]),st (ByteArray.mk #[]),st (ByteArray.mk #[]),AV.list LK.nil 0 0 []],Ob.cells [st a1,st a2,st x54,st x56,AV.list LK.nil 0 0 []]]) :=
  along_sound (ans:=[(3,Ans.l Ex.normal (f24_S1 s0 a1 w1 q1)),(4,Ans.l Ex.normal (f24_S2 s0 a1 q1 a2 w2 q2)),(5,Ans.l Ex.normal (f24_S3 s0 a1 q1 a2 q2 a3 w3 q3)),(6,Ans.l Ex.normal (f24_S4 s0 a1 q1 a2 q2 a3 q3 a4 w4 q4)),(7,Ans.l Ex.normal (f24_S6 s0 a1 q1 a2 q2 a3 q3 a4 w4 q4 b49)),(8,Ans.b false),(13,Ans.v (st x54)),(15,Ans.v (st x56)),(20,Ans.b true),(24,Ans.v (AV.tup [lro a 2 c,bo d])),(27,Ans.b false)]) (by kernel_rfl) (ai h0 (ai h1 (ai h2 (ai h3 (ai h4 (ai h5 (ai h6 (ai h7 (ai h8 (ai h9 (ai h10 trivial)))))))))))
def f24_S10 (s0 a1:ByteArray)(q1:Bool)(a2:ByteArray)(q2:Bool)(a3:ByteArray)(q3:Bool)(a4 w4:ByteArray)(q4 b49:Bool)(x54 x56:ByteArray):St :=
  stOf 79 [16,17,18,19,20,21,22,23,24,25,26,27,28,29,30,31,32,33,34,35,36,37,38,39,40,41,42,43,44,45,46,47,48,51,52,53,54,55,56,57] [(0,st s0),(2,AV.ref 0 0),(3,i6 0),(4,st a1),(5,st w4),(6,bo q1),(7,st a2),(8,bo q2),(9,st a3),(10,bo q3),(11,st a4),(12,bo q4),(13,AV.ref 1 0),(49,bo b49),(58,bo false)] [Ob.cells [st (ByteArray.mk #[]),st (ByteArray.mk #[]),st (ByteArray.mk #[]),st (ByteArray.mk #[]),AV.list LK.nil 0 0 []],Ob.cells [st a1,st a2,st x54,st x56,AV.list LK.nil 0 0 []]]
def f24_S11 (s0 a1:ByteArray)(q1:Bool)(a2:ByteArray)(q2:Bool)(a3:ByteArray)(q3:Bool)(a4 w4:ByteArray)(q4 b49:Bool)(x54 x56:ByteArray):St :=
  stOf 79 [16,17,18,19,20,21,22,23,24,25,26,27,28,29,30,31,32,33,34,35,36,37,38,39,40,41,42,43,44,45,46,47,48,51,52,53,54,55,56,57,69,70,71,72,73,74,75] [(0,st s0),(2,AV.ref 0 0),(3,i6 0),(4,st a1),(5,st w4),(6,bo q1),(7,st a2),(8,bo q2),(9,st a3),(10,bo q3),(11,st a4),(12,bo q4),(13,AV.ref 1 0),(49,bo b49),(58,bo false),(76,bo true)] [Ob.cells [st (ByteArray.mk #[]),st (ByteArray.mk #[]),st (ByteArray.mk #[]),st (ByteArray.mk #[]),AV.list LK.nil 0 0 []],Ob.cells [st a1,st a2,st x54,st x56,AV.list LK.nil 0 0 []]]
theorem f24_g13b_t (s0 a1:ByteArray)(q1:Bool)(a2:ByteArray)(q2:Bool)(a3:ByteArray)(q3:Bool)(a4 w4:ByteArray)(q4 b49:Bool)(X:Ext)(call:Caller)(lf:Nat)(x54 x56 x70:ByteArray)
 (h0:callv X call false 22 [AV.agg [st a1,st a2,st x54,st x56,AV.list LK.nil 0 0 []]] [Ob.cells [st (ByteArray.mk #[]),st (ByteArray.mk #[]),st (ByteArray.mk #[]),st (ByteArray.mk #[]),AV.list LK.nil 0 0 []],Ob.cells [st a1,st a2,st x54,st x56,AV.list LK.nil 0 0 []]] 0=some (st x70,[Ob.cells [st (ByteArray.mk #[]),st (ByteArray.mk #[]),st (ByteArray.mk #[]),st (ByteArray.mk #[]),AV.list LK.nil 0 0 []],Ob.cells [st a1,st a2,st x54,st x56,AV.list LK.nil 0 0 []]]))
 (h1:(!ByteArray.toList x70 == ByteArray.toList s0)=true):vexec Tryd.prog X call lf 0 fg24 (regN Tryd.f24 13) (f24_S10 s0 a1 q1 a2 q2 a3 q3 a4 w4 q4 b49 x54 x56)=some (Ex.normal,(f24_S11 s0 a1 q1 a2 q2 a3 q3 a4 w4 q4 b49 x54 x56)) :=
  around_sound (ans:=[(2,Ans.v (st x70)),(4,Ans.b true)]) (by kernel_rfl) (ai h0 (ai h1 trivial))
theorem f24_g13b_ff (s0 a1:ByteArray)(q1:Bool)(a2:ByteArray)(q2:Bool)(a3:ByteArray)(q3:Bool)(a4 w4:ByteArray)(q4 b49:Bool)(X:Ext)(call:Caller)(lf:Nat)(x54 x56 x70:ByteArray)
 (h0:callv X call false 22 [AV.agg [st a1,st a2,st x54,st x56,AV.list LK.nil 0 0 []]] [Ob.cells [st (ByteArray.mk #[]),st (ByteArray.mk #[]),st (ByteArray.mk #[]),st (ByteArray.mk #[]),AV.list LK.nil 0 0 []],Ob.cells [st a1,st a2,st x54,st x56,AV.list LK.nil 0 0 []]] 0=some (st x70,[Ob.cells [st (ByteArray.mk #[]),st (ByteArray.mk #[]),st (ByteArray.mk #[]),st (ByteArray.mk #[]),AV.list LK.nil 0 0 []],Ob.cells [st a1,st a2,st x54,st x56,AV.list LK.nil 0 0 []]]))
 (h1:(!ByteArray.toList x70 == ByteArray.toList s0)=false)
 (h2:(ByteArray.toList s0 == ByteArray.toList (ByteArray.mk #[]))=false):vexec Tryd.prog X call lf 0 fg24 (regN Tryd.f24 13) (f24_S10 s0 a1 q1 a2 q2 a3 q3 a4 w4 q4 b49 x54 x56)=some (Ex.normal,stOf 79 [16,17,18,19,20,21,22,23,24,25,26,27,28,29,30,31,32,33,34,35,36,37,38,39,40,41,42,43,44,45,46,47,48,51,52,53,54,55,56,57,69,70,71,72,73,74,75] [(0,st s0),(2,AV.ref 0 0),(3,i6 0),(4,st a1),(5,st w4),(6,bo q1),(7,st a2),(8,bo q2),(9,st a3),(10,bo q3),(11,st a4),(12,bo q4),(13,AV.ref 1 0),(49,bo b49),(58,bo false),(76,bo false)] [Ob.cells [st (ByteArray.mk #[]),st (ByteArray.mk #[]),st (ByteArray.mk #[]),st (ByteArray.mk #[]),AV.list LK.nil 0 0 []],Ob.cells [st a1,st a2,st x54,st x56,AV.list LK.nil 0 0 []]]) :=
  around_sound (ans:=[(2,Ans.v (st x70)),(4,Ans.b false),(9,Ans.b false)]) (by kernel_rfl) (ai h0 (ai h1 (ai h2 trivial)))
def f24_S12 (s0 a1:ByteArray)(q1:Bool)(a2:ByteArray)(q2:Bool)(a3:ByteArray)(q3:Bool)(a4 w4:ByteArray)(q4 b49 b76:Bool)(x54 x56:ByteArray):St :=
  stOf 79 [16,17,18,19,20,21,22,23,24,25,26,27,28,29,30,31,32,33,34,35,36,37,38,39,40,41,42,43,44,45,46,47,48,51,52,53,54,55,56,57,69,70,71,72,73,74,75] [(0,st s0),(2,AV.ref 0 0),(3,i6 0),(4,st a1),(5,st w4),(6,bo q1),(7,st a2),(8,bo q2),(9,st a3),(10,bo q3),(11,st a4),(12,bo q4),(13,AV.ref 1 0),(49,bo b49),(58,bo false),(76,bo b76)] [Ob.cells [st (ByteArray.mk #[]),st (ByteArray.mk #[]),st (ByteArray.mk #[]),st (ByteArray.mk #[]),AV.list LK.nil 0 0 []],Ob.cells [st a1,st a2,st x54,st x56,AV.list LK.nil 0 0 []]]
theorem f24_pfft (s0 a1 w1:ByteArray)(q1:Bool)(a2 w2:ByteArray)(q2:Bool)(a3 w3:ByteArray)(q3:Bool)(a4 w4:ByteArray)(q4 b49 b76:Bool)(X:Ext)(call:Caller)(lf:Nat)(x54 x56:ByteArray)
 (h0:vexec Tryd.prog X call lf 0 fg24 (regN Tryd.f24 1) (f24_S0 s0)=some (Ex.normal,(f24_S1 s0 a1 w1 q1)))
 (h1:vexec Tryd.prog X call lf 0 fg24 (regN Tryd.f24 2) (f24_S1 s0 a1 w1 q1)=some (Ex.normal,(f24_S2 s0 a1 q1 a2 w2 q2)))
 (h2:vexec Tryd.prog X call lf 0 fg24 (regN Tryd.f24 3) (f24_S2 s0 a1 q1 a2 w2 q2)=some (Ex.normal,(f24_S3 s0 a1 q1 a2 q2 a3 w3 q3)))
 (h3:vexec Tryd.prog X call lf 0 fg24 (regN Tryd.f24 4) (f24_S3 s0 a1 q1 a2 q2 a3 w3 q3)=some (Ex.normal,(f24_S4 s0 a1 q1 a2 q2 a3 q3 a4 w4 q4)))
 (h4:vexec Tryd.prog X call lf 0 fg24 (regN Tryd.f24 5) (f24_S4 s0 a1 q1 a2 q2 a3 q3 a4 w4 q4)=some (Ex.normal,(f24_S6 s0 a1 q1 a2 q2 a3 q3 a4 w4 q4 b49)))
 (h5:b49=false)
 (h6:callv X call false 58 [st a3] [Ob.cells [st (ByteArray.mk #[]),st (ByteArray.mk #[]),st (ByteArray.mk #[]),st (ByteArray.mk #[]),AV.list LK.nil 0 0 []]] 0=some (st x54,[Ob.cells [st (ByteArray.mk #[]),st (ByteArray.mk #[]),st (ByteArray.mk #[]),st (ByteArray.mk #[]),AV.list LK.nil 0 0 []]]))
 (h7:callv X call false 58 [st a4] [Ob.cells [st (ByteArray.mk #[]),st (ByteArray.mk #[]),st (ByteArray.mk #[]),st (ByteArray.mk #[]),AV.list LK.nil 0 0 []]] 0=some (st x56,[Ob.cells [st (ByteArray.mk #[]),st (ByteArray.mk #[]),st (ByteArray.mk #[]),st (ByteArray.mk #[]),AV.list LK.nil 0 0 []]]))
 (h8:q4=false)
 (h9:vexec Tryd.prog X call lf 0 fg24 (regN Tryd.f24 13) (f24_S10 s0 a1 q1 a2 q2 a3 q3 a4 w4 q4 b49 x54 x56)=some (Ex.normal,(f24_S12 s0 a1 q1 a2 q2 a3 q3 a4 w4 q4 b49 b76 x54 x56)))
 (h10:b76=true):vbody Tryd.prog X call lf fg24 Tryd.f24 (codeOf Tryd.f24) [st s0] [] 0=some (AV.tup [AV.agg [st (ByteArray.mk #[]),st (ByteArray.mk #[]),st (ByteArray.mk #[]),st (ByteArray.mk #[]),AV.list LK.nil 0 0 []],i6 3],[Ob.cells [st (ByteArray.mk #[]),st (ByteArray.mk #[]),st (ByteArray.mk #[]),st (ByteArray.mk #[]),AV.list LK.nil 0 0 []],Ob.cells [st a1,st a2,st x54,st x56,AV.list LK.nil 0 0 []]]) :=
  along_sound (ans:=[(3,Ans.l Ex.normal (f24_S1 s0 a1 w1 q1)),(4,Ans.l Ex.normal (f24_S2 s0 a1 q1 a2 w2 q2)),(5,Ans.l Ex.normal (f24_S3 s0 a1 q1 a2 q2 a3 w3 q3)),(6,Ans.l Ex.normal (f24_S4 s0 a1 q1 a2 q2 a3 q3 a4 w4 q4)),(7,Ans.l Ex.normal (f24_S6 s0 a1 q1 a2 q2 a3 q3 a4 w4 q4 b49)),(8,Ans.b false),(13,Ans.v (st x54)),(15,Ans.v (st x56)),(20,Ans.b false),(22,Ans.l Ex.normal (f24_S12 s0 a1 q1 a2 q2 a3 q3 a4 w4 q4 b49 b76 x54 x56)),(23,Ans.b true)]) (by kernel_rfl) (ai h0 (ai h1 (ai h2 (ai h3 (ai h4 (ai h5 (ai h6 (ai h7 (ai h8 (ai h9 (ai h10 trivial)))))))))))
theorem f24_pfff (s0 a1 w1:ByteArray)(q1:Bool)(a2 w2:ByteArray)(q2:Bool)(a3 w3:ByteArray)(q3:Bool)(a4 w4:ByteArray)(q4 b49 b76:Bool)(X:Ext)(call:Caller)(lf:Nat)(x54 x56:ByteArray)
 (h0:vexec Tryd.prog X call lf 0 fg24 (regN Tryd.f24 1) (f24_S0 s0)=some (Ex.normal,(f24_S1 s0 a1 w1 q1)))
 (h1:vexec Tryd.prog X call lf 0 fg24 (regN Tryd.f24 2) (f24_S1 s0 a1 w1 q1)=some (Ex.normal,(f24_S2 s0 a1 q1 a2 w2 q2)))
 (h2:vexec Tryd.prog X call lf 0 fg24 (regN Tryd.f24 3) (f24_S2 s0 a1 q1 a2 w2 q2)=some (Ex.normal,(f24_S3 s0 a1 q1 a2 q2 a3 w3 q3)))
 (h3:vexec Tryd.prog X call lf 0 fg24 (regN Tryd.f24 4) (f24_S3 s0 a1 q1 a2 q2 a3 w3 q3)=some (Ex.normal,(f24_S4 s0 a1 q1 a2 q2 a3 q3 a4 w4 q4)))
 (h4:vexec Tryd.prog X call lf 0 fg24 (regN Tryd.f24 5) (f24_S4 s0 a1 q1 a2 q2 a3 q3 a4 w4 q4)=some (Ex.normal,(f24_S6 s0 a1 q1 a2 q2 a3 q3 a4 w4 q4 b49)))
 (h5:b49=false)
 (h6:callv X call false 58 [st a3] [Ob.cells [st (ByteArray.mk #[]),st (ByteArray.mk #[]),st (ByteArray.mk #[]),st (ByteArray.mk #[]),AV.list LK.nil 0 0 []]] 0=some (st x54,[Ob.cells [st (ByteArray.mk #[]),st (ByteArray.mk #[]),st (ByteArray.mk #[]),st (ByteArray.mk #[]),AV.list LK.nil 0 0 []]]))
 (h7:callv X call false 58 [st a4] [Ob.cells [st (ByteArray.mk #[]),st (ByteArray.mk #[]),st (ByteArray.mk #[]),st (ByteArray.mk #[]),AV.list LK.nil 0 0 []]] 0=some (st x56,[Ob.cells [st (ByteArray.mk #[]),st (ByteArray.mk #[]),st (ByteArray.mk #[]),st (ByteArray.mk #[]),AV.list LK.nil 0 0 []]]))
 (h8:q4=false)
 (h9:vexec Tryd.prog X call lf 0 fg24 (regN Tryd.f24 13) (f24_S10 s0 a1 q1 a2 q2 a3 q3 a4 w4 q4 b49 x54 x56)=some (Ex.normal,(f24_S12 s0 a1 q1 a2 q2 a3 q3 a4 w4 q4 b49 b76 x54 x56)))
 (h10:b76=false):vbody Tryd.prog X call lf fg24 Tryd.f24 (codeOf Tryd.f24) [st s0] [] 0=some (AV.tup [AV.agg [st a1,st a2,st x54,st x56,AV.list LK.nil 0 0 []],i6 0],[Ob.cells [st a1,st a2,st x54,st x56,AV.list LK.nil 0 0 []],Ob.cells [st a1,st a2,st x54,st x56,AV.list LK.nil 0 0 []]]) :=
  along_sound (ans:=[(3,Ans.l Ex.normal (f24_S1 s0 a1 w1 q1)),(4,Ans.l Ex.normal (f24_S2 s0 a1 q1 a2 w2 q2)),(5,Ans.l Ex.normal (f24_S3 s0 a1 q1 a2 q2 a3 w3 q3)),(6,Ans.l Ex.normal (f24_S4 s0 a1 q1 a2 q2 a3 q3 a4 w4 q4)),(7,Ans.l Ex.normal (f24_S6 s0 a1 q1 a2 q2 a3 q3 a4 w4 q4 b49)),(8,Ans.b false),(13,Ans.v (st x54)),(15,Ans.v (st x56)),(20,Ans.b false),(22,Ans.l Ex.normal (f24_S12 s0 a1 q1 a2 q2 a3 q3 a4 w4 q4 b49 b76 x54 x56)),(23,Ans.b false)]) (by kernel_rfl) (ai h0 (ai h1 (ai h2 (ai h3 (ai h4 (ai h5 (ai h6 (ai h7 (ai h8 (ai h9 (ai h10 trivial)))))))))))
end Go.Proofs.Lex
end
/- Lexicon: the reference's line. -/
section
open Go Go.Vm Go.Proofs
namespace Go.Proofs.Lex
theorem any_hit {s:ByteArray} {k:Nat} {x:UInt8} (hb:∀ i,i < k→∀ b,s.data.toList[i]? = some b → ¬ (b=32 ∨ b=10)) (hx:s.data.toList[k]? = some x) (h:x=32 ∨ x=10):anyBN s=true:=by
  have hno : Lib.NoAny s.data.toList [32, 10] k := fun j b hj hjb => by
    have:=hb j hj b hjb
    rw [Bool.eq_false_iff]
    intro hc
    simp only [List.contains_cons,List.contains_nil,Bool.or_false,Bool.or_eq_true,beq_iff_eq] at hc
    exact this hc
  have hc:[(32:UInt8),10].contains x=true:=by rcases h with rfl | rfl <;> decide
  unfold anyBN Lib.containsAny
  rw [Lib.indexAny_hit hno hx hc]
  exact decide_eq_true (by omega)
theorem any_none {s:ByteArray} (hb:∀ (i:Nat) (b:UInt8),s.data.toList[i]? = some b → ¬ (b=32 ∨ b=10)):anyBN s=false:=by
  have hno : Lib.NoAny s.data.toList [32, 10] s.data.toList.length := fun j b hj hjb => by
    have:=hb j b hjb
    rw [Bool.eq_false_iff]
    intro hc
    simp only [List.contains_cons,List.contains_nil,Bool.or_false,Bool.or_eq_true,beq_iff_eq] at hc
    exact this hc
  unfold anyBN Lib.containsAny
  rw [Lib.indexAny_none hno]
  rfl
theorem textF_nil {F:List Feat} (h:textF F=[]):F=[]:=by
  cases F with
  | nil=>rfl
  | cons f F =>
    exfalso
    have:textF (f::F)=((cond (decide (0 < F.length)) (textN (f::F) F.length ++ [32]) [] ++ (nF (f::F) F.length).name.data.toList) ++ [61]) ++ (nF (f::F) F.length).value.data.toList:=rfl
    rw [this] at h
    simp at h
/-- The line up to the features. -/
def headB (x:Lexm):List UInt8:=x.id.data.toList ++ [32] ++ x.cat.data.toList ++ [32] ++ (dashS x.stem).data.toList ++ [32] ++ (dashS x.par).data.toList
theorem joinB_head (x:Lexm):joinB (lineParts x) blank=if x.feats=[] then headB x else headB x ++ ([32] ++ textF x.feats):=by
  unfold lineParts partsL headB
  by_cases h:x.feats=[]
  · rw [if_pos h, if_pos (by rw [h]; rfl)]
    unfold joinB Lib.join
    simp [List.intercalate,List.intersperse,blank]
  · rw [if_neg h, if_neg (by
      intro e
      have:=congrArg (fun b:ByteArray=>b.data.toList) e
      exact h (textF_nil this))]
    unfold joinB Lib.join textS
    simp [List.intercalate,List.intersperse,blank]
section
variable [Fixed] {X:Ext}
def V22:Go.Vm.Spec:=(((Go.Vm.Spec.on (fun _ _=>none) 49 (s1 aS aB nameL okS)).on 50 (s1 aFs aB validF okF)).on 51 (s1 aS aS dashS fun _=>True)).on 52 (s1 aFs aS (fun F=>mkB (textF F)) okX)
theorem V22_ok (hX:ExtOk Tryd.prog X) (hL:XL X):SpecOk Tryd.prog V22 :=
  SpecOk.s1 (SpecOk.s1 (SpecOk.s1 (SpecOk.s1 SpecOk.none' fun s h=>call49 hX hL h) fun F h=>call50 hX hL h) fun s _=>call51 hX hL s) fun F h=>call52 hX hL h.1 h.2
theorem w49 (hL:XL X) {s:ByteArray} {b:Bool} (h:okS s) (hb:nameL s=b) (σ:List Ob):callv X (callerOf V22) false 49 [st s] σ 0=some (bo b,σ):=by
  obtain ⟨a1,a2,a3⟩:=hL.ok 49 rfl
  rw [← hb]
  exact call_on (B:=aB) (T:=V22) (y:=nameL s) (vs:=[aS.enc s]) a1 a2 a3 rfl (s1_at (A:=aS) (B:=aB) (g:=nameL) (ok:=okS) h)
theorem w50 (hL:XL X) {F:List Feat} {b:Bool} (h:okF F) (hb:validF F=b) (σ:List Ob):callv X (callerOf V22) false 50 [featsV F] σ 0=some (bo b,σ):=by
  obtain ⟨a1,a2,a3⟩:=hL.ok 50 rfl
  rw [← hb]
  exact call_on (B:=aB) (T:=V22) (y:=validF F) (vs:=[aFs.enc F]) a1 a2 a3 (by simp only [AV.ltAll,aFs.lt,Bool.and_self]) (s1_at (A:=aFs) (B:=aB) (g:=validF) (ok:=okF) h)
theorem w51 (hL:XL X) (s:ByteArray) (dr:Bool) (σ:List Ob):callv X (callerOf V22) dr 51 [st s] σ 0=some (st (dashS s),σ):=by
  obtain ⟨a1,a2,a3⟩:=hL.ok 51 rfl
  exact call_on (B:=aS) (T:=V22) (y:=dashS s) (vs:=[aS.enc s]) a1 a2 a3 rfl (s1_at (A:=aS) (B:=aS) (g:=dashS) (ok:=fun _=>True) trivial)
theorem w52 (hL:XL X) {F:List Feat} (h:okX F) (σ:List Ob):callv X (callerOf V22) false 52 [featsV F] σ 0=some (st (mkB (textF F)),σ):=by
  obtain ⟨a1,a2,a3⟩:=hL.ok 52 rfl
  exact call_on (B:=aS) (T:=V22) (y:=mkB (textF F)) (vs:=[aFs.enc F]) a1 a2 a3 (by simp only [AV.ltAll,aFs.lt,Bool.and_self]) (s1_at (A:=aFs) (B:=aS) (g:=fun F=>mkB (textF F)) (ok:=okX) h)
/-- What stands behind the stem's test: whether there is no line. -/
def noLine (x:Lexm):Bool := !(nameL x.id && (nameL x.cat && (!decide (x.stem=dash) && ((decide (x.par=emp) || nameL x.par) && (!decide (x.par=dash) && validF x.feats)))))
theorem noLine_eq {x:Lexm} (h:anyBN x.stem=false):noLine x = !lineOk x:=by
  unfold noLine lineOk
  rw [h]
  congr 1
  cases nameL x.id <;> cases nameL x.cat <;> cases decide (x.stem=dash) <;> cases decide (x.par=emp) <;> cases nameL x.par <;> cases decide (x.par=dash) <;> rfl
theorem reg6 (hL:XL X) {x:Lexm} {lf i:Nat} (h1:okS x.id) (h2:okS x.cat) (h3:okS x.par) (h4:okF x.feats):vexec Tryd.prog X (callerOf V22) lf 0 fg22 (regN Tryd.f22 6) (f22_S2 x i)=some (.normal,f22_S5 x (noLine x) i):=by
  have tt:∀ {s:ByteArray},s=dash→(s.toList == (ByteArray.mk #[45]).toList)=true:=fun h=>eqB_iff.2 h
  have tf:∀ {s:ByteArray},s ≠ dash→(s.toList == (ByteArray.mk #[45]).toList)=false:=fun h=>eqB_ne.2 h
  have S3:f22_S3 x i=f22_S5 x true i:=rfl
  have S4:f22_S4 x i=f22_S5 x false i:=rfl
  unfold noLine
  cases b0:nameL x.id with
  | false=>exact f22_g6_f x X (callerOf V22) lf i (w49 hL h1 b0 _)
  | true =>
    cases b1:nameL x.cat with
    | false=>exact f22_g6_tf x X (callerOf V22) lf i (w49 hL h1 b0 _) (w49 hL h2 b1 _)
    | true =>
      by_cases c1:x.stem=dash
      · rw [decide_eq_true c1]
        exact f22_g6_ttt x X (callerOf V22) lf i (w49 hL h1 b0 _) (w49 hL h2 b1 _) (tt c1)
      · rw [decide_eq_false c1]
        by_cases c2:x.par=emp
        · rw [decide_eq_true c2]
          have c3:x.par ≠ dash:=by rw [c2]; decide
          rw [decide_eq_false c3]
          cases b3:validF x.feats with
          | true=>exact f22_g6_ttffft x X (callerOf V22) lf i (w49 hL h1 b0 _) (w49 hL h2 b1 _) (tf c1) (eq_test c2) (tf c3) (w50 hL h4 b3 _)
          | false=>exact f22_g6_ttffff x X (callerOf V22) lf i (w49 hL h1 b0 _) (w49 hL h2 b1 _) (tf c1) (eq_test c2) (tf c3) (w50 hL h4 b3 _)
        · rw [decide_eq_false c2]
          cases b2:nameL x.par with
          | false=>exact f22_g6_ttftf x X (callerOf V22) lf i (w49 hL h1 b0 _) (w49 hL h2 b1 _) (tf c1) (emp_test c2) (w49 hL h3 b2 _)
          | true =>
            by_cases c3:x.par=dash
            · rw [decide_eq_true c3]
              exact f22_g6_ttfttt x X (callerOf V22) lf i (w49 hL h1 b0 _) (w49 hL h2 b1 _) (tf c1) (emp_test c2) (w49 hL h3 b2 _) (tt c3)
            · rw [decide_eq_false c3]
              cases b3:validF x.feats with
              | true=>exact f22_g6_ttfttft x X (callerOf V22) lf i (w49 hL h1 b0 _) (w49 hL h2 b1 _) (tf c1) (emp_test c2) (w49 hL h3 b2 _) (tf c3) (w50 hL h4 b3 _)
              | false=>exact f22_g6_ttfttff x X (callerOf V22) lf i (w49 hL h1 b0 _) (w49 hL h2 b1 _) (tf c1) (emp_test c2) (w49 hL h3 b2 _) (tf c3) (w50 hL h4 b3 _)
theorem reg8 (hL:XL X) {x:Lexm} {lf i:Nat} {b:Bool} (h:(headB x).length ≤ big):vexec Tryd.prog X (callerOf V22) lf 0 fg22 (regN Tryd.f22 8) (f22_S5 x b i)=some (.normal,f22_S6 x b (mkB (headB x)) i):=by
  have h' : (headB x).length ≤ 140737488355328:=h
  unfold headB at h'
  simp only [List.length_append,List.length_cons,List.length_nil] at h'
  refine f22_g8_ x b X (callerOf V22) lf i _ _ _ _ _ _ _ _ (addB ?_) (addB ?_) (addB ?_) (w51 hL _ _ _) (addB ?_) (addB ?_) (w51 hL _ _ _) (addB ?_)
  all_goals
    simp only [mkB_data,List.length_append,List.length_cons,List.length_nil]
    show _ ≤ 140737488355328
    omega
/-- ref09.Line. -/
theorem call22 (hX:ExtOk Tryd.prog X) (hL:XL X) {x:Lexm} (h:okLine x) (hst:okS x.stem):CallAt Tryd.prog 22 [aL.enc x] [] 0 (aS.enc (lineS x)) []:=by
  have hC:=callerOf_ok (V22_ok hX hL)
  have hsl:=size_list x.stem
  have hbody:Tryd.f22.body=some (codeOf Tryd.f22):=by kernel_rfl
  have lt_of:∀ {i:Nat},i < x.stem.size→decide ((i:Int) < (x.stem.size:Int))=true:=fun h=>decide_eq_true (by omega)
  have hbyte : ∀ {i : Nat} (h : i < x.stem.data.toList.length) (c : UInt8), ((byteN x.stem i : Int) == (c.toNat : Int)) = decide (x.stem.data.toList[i] = c) := fun {i} h c => by
    rw [byteN_list h]
    by_cases e:x.stem.data.toList[i]=c
    · rw [decide_eq_true e,e]; simp
    · rw [decide_eq_false e]; exact u8_ne e
  have empty : ∀ {σ : List Ob} {lf : Nat}, lineOk x = false → vbody Tryd.prog X (callerOf V22) lf fg22 Tryd.f22 (codeOf Tryd.f22) [.agg (lexC x)] [] 0 = some (st (ByteArray.mk #[]), σ) → CallAt Tryd.prog 22 [aL.enc x] [] 0 (aS.enc (lineS x)) [] := fun h0 hv => by
    have:lineS x=emp:=by unfold lineS; rw [h0]; rfl
    rw [this]
    exact run_res (B:=aS) hX hC (hL.dom 22 rfl rfl) Tryd.func22 hbody hv (aS.de emp)
  have step : ∀ j, j < x.stem.size → ¬ (x.stem.data.toList[j]? = some 32 ∨ x.stem.data.toList[j]? = some 10) → ∃ Sx, vexec Tryd.prog X (callerOf V22) (x.stem.size + 1) 0 fg22 (loopN Tryd.f22 0) (f22_F0 x j) = some (.normal, Sx) ∧ forget f22_D0 Sx = f22_F0 x (j + 1) := fun j hj hn => by
    have hjl:j < x.stem.data.toList.length:=by omega
    rw [List.getElem?_eq_getElem hjl] at hn
    have n1:x.stem.data.toList[j] ≠ 32:=fun e=>hn (.inl (by rw [e]))
    have n2:x.stem.data.toList[j] ≠ 10:=fun e=>hn (.inr (by rw [e]))
    exact f22_s0_tff x X (callerOf V22) (x.stem.size + 1) j (byteN x.stem j) (byteN x.stem j) (lt_of hj) (at_byte hj) (by rw [show ((byteN x.stem j:Int) == 32)=_ from hbyte hjl 32,decide_eq_false n1]) (at_byte hj) (by rw [show ((byteN x.stem j:Int) == 10)=_ from hbyte hjl 10,decide_eq_false n2]) (up hj hst)
  rcases first_fail (p:=fun j => ¬ (x.stem.data.toList[j]? = some 32 ∨ x.stem.data.toList[j]? = some 10)) x.stem.size with hall | ⟨k,hk,hbad,hbef⟩
  · have hany : anyBN x.stem = false := any_none fun i b hib hbb => by
      have hi:=(List.getElem?_eq_some_iff.1 hib).1
      refine hall i (by omega) ?_
      rw [hib]
      rcases hbb with rfl | rfl
      · exact .inl rfl
      · exact .inr rfl
    have l0:=f22_L0 x X (callerOf V22) (x.stem.size + 1) x.stem.size _ _ (Nat.lt_succ_self _) (fun j hj=>step j hj (hall j hj)) (f22_r0_f x X (callerOf V22) (x.stem.size + 1) x.stem.size (decide_eq_false (by omega))) (by simp)
    have r6:=reg6 (X:=X) hL (x:=x) (lf:=x.stem.size + 1) (i:=x.stem.size) h.id h.cat h.par h.feats
    have hno:=noLine_eq hany
    cases hok:lineOk x with
    | false =>
      rw [hok] at hno
      exact empty hok (f22_plft x (noLine x) X (callerOf V22) (x.stem.size + 1) x.stem.size l0 r6 hno)
    | true =>
      rw [hok] at hno
      have hline:=h.line hok
      have htext:=h.text hok
      have hjh:=joinB_head x
      have hls:lineS x=mkB (joinB (lineParts x) blank):=by unfold lineS; rw [hok]; rfl
      by_cases hf:x.feats=[]
      · rw [if_pos hf] at hjh
        rw [hjh] at hline hls
        rw [hls]
        exact run_res (B:=aS) hX hC (hL.dom 22 rfl rfl) Tryd.func22 hbody (f22_plfff x (noLine x) (mkB (headB x)) X (callerOf V22) (x.stem.size + 1) x.stem.size l0 r6 hno (reg8 hL hline) (decide_eq_false (by rw [hf]; decide))) (aS.de _)
      · rw [if_neg hf] at hjh
        rw [hjh] at hline hls
        have hl' : (headB x ++ ([32] ++ textF x.feats)).length ≤ 140737488355328:=hline
        simp only [List.length_append,List.length_cons,List.length_nil] at hl'
        have hpos:0 < x.feats.length:=List.length_pos_iff.2 hf
        rw [hls]
        exact run_res (B := aS) hX hC (hL.dom 22 rfl rfl) Tryd.func22 hbody (f22_plfft x (noLine x) (mkB (headB x)) X (callerOf V22) (x.stem.size + 1) x.stem.size _ _ _ l0 r6 hno (reg8 hL (by show _ ≤ 140737488355328; omega)) (decide_eq_true (by omega)) (w52 hL ⟨htext.1, by show _ ≤ 140737488355328; omega⟩ _)
          (addB (by show [32].length + (textF x.feats).length ≤ 140737488355328; rw [List.length_singleton]; omega)) (addB (by show (headB x).length + ([32] ++ textF x.feats).length ≤ 140737488355328; rw [List.length_append,List.length_singleton]; omega))) (aS.de _)
  · have hb : x.stem.data.toList[k]? = some 32 ∨ x.stem.data.toList[k]? = some 10 := Classical.not_not.1 hbad
    have hkl:k < x.stem.data.toList.length:=by omega
    have hany : anyBN x.stem = true := any_hit (k := k) (x := x.stem.data.toList[k]) (fun i hi b hib hbb => by
      refine hbef i hi ?_
      rw [hib]
      rcases hbb with rfl | rfl
      · exact .inl rfl
      · exact .inr rfl) (List.getElem?_eq_getElem hkl) (by
      rw [List.getElem?_eq_getElem hkl] at hb
      rcases hb with hb | hb
      · exact .inl (Option.some.inj hb)
      · exact .inr (Option.some.inj hb))
    have hok : lineOk x = false := by
      unfold lineOk
      rw [hany]
      cases nameL x.id <;> cases nameL x.cat <;> cases decide (x.stem=dash) <;> rfl
    rw [List.getElem?_eq_getElem hkl] at hb
    by_cases h32:x.stem.data.toList[k]=32
    · have hr := f22_r0_tt x X (callerOf V22) (x.stem.size + 1) k (byteN x.stem k) (lt_of hk) (at_byte hk) (by rw [show ((byteN x.stem k : Int) == 32) = _ from hbyte hkl 32, decide_eq_true h32])
      exact empty hok (f22_pltt x X (callerOf V22) (x.stem.size + 1) k (f22_L0 x X (callerOf V22) (x.stem.size + 1) k _ _ (by omega) (fun j hj=>step j (by omega) (hbef j hj)) hr (by simp)))
    · have h10 : x.stem.data.toList[k] = 10 := by
        rcases hb with hb | hb
        · exact absurd (Option.some.inj hb) h32
        · exact Option.some.inj hb
      have hr:=f22_r0_tft x X (callerOf V22) (x.stem.size + 1) k (byteN x.stem k) (byteN x.stem k) (lt_of hk) (at_byte hk) (by rw [show ((byteN x.stem k:Int) == 32)=_ from hbyte hkl 32,decide_eq_false h32]) (at_byte hk) (by rw [show ((byteN x.stem k:Int) == 10)=_ from hbyte hkl 10,decide_eq_true h10])
      exact empty hok (f22_pltft x X (callerOf V22) (x.stem.size + 1) k (f22_L0 x X (callerOf V22) (x.stem.size + 1) k _ _ (by omega) (fun j hj=>step j (by omega) (hbef j hj)) hr (by simp)))
end
end Go.Proofs.Lex
end
/- Lexicon: the reference's ParseLine. -/
section
open Go Go.Vm Go.Proofs
namespace Go.Proofs.Lex
/-- A string's first word, its rest, and whether a blank follows. -/
def wordP:List (List UInt8)→ByteArray × ByteArray × Bool
  | []=>(emp,emp,false)
  | x::r=>(mkB x,mkB (Lib.join r [32]),!r.isEmpty)
theorem word_spl {s:ByteArray} {P:List (List UInt8)} (h:spl s.data.toList=P):wordF s=wordP P:=by
  subst h
  unfold wordF
  rw [spl_idx]
  by_cases hk:idxB 32 s.data.toList < s.data.toList.length
  · rw [if_pos hk, if_pos hk]
    have hr:=spl_ne (s.data.toList.drop (idxB 32 s.data.toList + 1))
    have hj:=join_spl (s.data.toList.drop (idxB 32 s.data.toList + 1))
    show _=(mkB _,mkB (Lib.join (spl (s.data.toList.drop (idxB 32 s.data.toList + 1))) [32]),!(spl (s.data.toList.drop (idxB 32 s.data.toList + 1))).isEmpty)
    rw [hj]
    cases h:spl (s.data.toList.drop (idxB 32 s.data.toList + 1)) with
    | nil=>exact absurd h hr
    | cons a b=>rfl
  · rw [if_neg hk, if_neg hk]
    show _=(mkB _,mkB (Lib.join [] [32]),!([]:List (List UInt8)).isEmpty)
    rw [mkB_self]
    rfl
theorem spl_rest : ∀ {l : List UInt8} {x : List UInt8} {r : List (List UInt8)}, spl l = x :: r → r ≠ [] → spl (Lib.join r [32]) = r := fun {l x r} h hr => by
  have h' := h
  rw [spl_idx] at h'
  split at h'
  · simp only [List.cons.injEq] at h'
    obtain ⟨_,h2⟩:=h'
    rw [← h2,join_spl]
  · simp only [List.cons.injEq] at h'
    exact absurd h'.2.symm hr
theorem word_le (s:ByteArray):(wordF s).2.1.size ≤ s.size:=by
  have hs:=size_list s
  unfold wordF
  split
  · show (mkB _).size ≤ _
    rw [size_list,mkB_data,List.length_drop]
    omega
  · exact Nat.zero_le _
/-- Fewer than four words. -/
theorem chain_few {s:ByteArray} (h:(spl s.data.toList).length < 4):((wordF s).2.2 && ((wordF (wordF s).2.1).2.2 && (wordF (wordF (wordF s).2.1).2.1).2.2))=false:=by
  rcases hp:spl s.data.toList with _ | ⟨a,_ | ⟨b,_ | ⟨c,_ | ⟨d,r⟩⟩⟩⟩
  · exact absurd hp (spl_ne _)
  · rw [word_spl hp]; rfl
  · have h1 : wordF s = (mkB a, mkB (Lib.join [b] [32]), true) := word_spl hp
    have e2:spl (mkB (Lib.join [b] [32])).data.toList=[b]:=spl_rest hp (by simp)
    rw [h1]
    show (true && ((wordF (mkB (Lib.join [b] [32]))).2.2 && _))=false
    rw [word_spl e2]
    rfl
  · have h1 : wordF s = (mkB a, mkB (Lib.join [b, c] [32]), true) := word_spl hp
    have e2:spl (mkB (Lib.join [b,c] [32])).data.toList=[b,c]:=spl_rest hp (by simp)
    have h2:wordF (mkB (Lib.join [b,c] [32]))=(mkB b,mkB (Lib.join [c] [32]),true):=word_spl e2
    have e3:spl (mkB (Lib.join [c] [32])).data.toList=[c]:=spl_rest e2 (by simp)
    rw [h1]
    show (true && ((wordF (mkB (Lib.join [b,c] [32]))).2.2 && (wordF (wordF (mkB (Lib.join [b,c] [32]))).2.1).2.2))=false
    rw [h2]
    show (true && (true && (wordF (mkB (Lib.join [c] [32]))).2.2))=false
    rw [word_spl e3]
    rfl
  · rw [hp] at h
    simp only [List.length_cons] at h
    omega
theorem chain_many {s:ByteArray} {a b c d:List UInt8} {r:List (List UInt8)} (hp:spl s.data.toList=a::b::c::d::r):∃ w1 w2 w3,wordF s=(mkB a,w1,true)∧wordF w1=(mkB b,w2,true)∧wordF w2=(mkB c,w3,true)∧wordF w3=(mkB d,mkB (Lib.join r [32]),!r.isEmpty):=by
  have e1:spl (mkB (Lib.join (b::c::d::r) [32])).data.toList=b::c::d::r:=spl_rest hp (by simp)
  have e2:spl (mkB (Lib.join (c::d::r) [32])).data.toList=c::d::r:=spl_rest e1 (by simp)
  have e3:spl (mkB (Lib.join (d::r) [32])).data.toList=d::r:=spl_rest e2 (by simp)
  exact ⟨_,_,_,word_spl hp,word_spl e1,word_spl e2,word_spl e3⟩
section
variable [Fixed] {X:Ext}
/-- What ref09.ParseLine of this text asks. -/
def V24 (x0:Lexm):Go.Vm.Spec:=(((Go.Vm.Spec.on (fun _ _=>none) 57 (s1 aS aW wordF fun s=>s.size ≤ big)).on 58 (s1 aS aS undashS fun _=>True)).on 59 (s1 aS aFsB parseB fun s=>(s.size + 1) * 33 ≤ big)).on 22 (s1 aL aS lineS fun x=>x=x0)
theorem V24_ok (hX:ExtOk Tryd.prog X) (hL:XL X) {x0:Lexm} (h:okLine x0) (hst:okS x0.stem):SpecOk Tryd.prog (V24 x0) :=
  SpecOk.s1 (SpecOk.s1 (SpecOk.s1 (SpecOk.s1 SpecOk.none' fun _ h=>call57 hX hL h) fun s _=>call58 hX hL s) fun _ h=>call59 hX hL h) fun x hx=>by subst hx; exact call22 hX hL h hst
theorem a57 (hL:XL X) {x0:Lexm} {s a w:ByteArray} {q:Bool} (hs:s.size ≤ big) (e:wordF s=(a,w,q)) (σ:List Ob):callv X (callerOf (V24 x0)) false 57 [st s] σ 0=some (.tup [st a,st w,bo q],σ):=by
  obtain ⟨a1,a2,a3⟩:=hL.ok 57 rfl
  have:=call_on (X:=X) (B:=aW) (T:=V24 x0) (y:=wordF s) (vs:=[aS.enc s]) (σ:=σ) (ro:=0) (dr:=false) a1 a2 a3 rfl (s1_at (A:=aS) (B:=aW) (g:=wordF) (ok:=fun s=>s.size ≤ big) hs)
  rw [e] at this
  exact this
theorem a58 (hL:XL X) {x0:Lexm} (s:ByteArray) (dr:Bool) (σ:List Ob):callv X (callerOf (V24 x0)) dr 58 [st s] σ 0=some (st (undashS s),σ):=by
  obtain ⟨a1,a2,a3⟩:=hL.ok 58 rfl
  exact call_on (B:=aS) (T:=V24 x0) (y:=undashS s) (vs:=[aS.enc s]) a1 a2 a3 rfl (s1_at (A:=aS) (B:=aS) (g:=undashS) (ok:=fun _=>True) trivial)
theorem a59 (hL:XL X) {x0:Lexm} {s:ByteArray} {F:List Feat} {b:Bool} (hs:(s.size + 1) * 33 ≤ big) (e:parseB s=(F,b)) (σ:List Ob):callv X (callerOf (V24 x0)) false 59 [st s] σ 0=some (.tup [featsV F,bo b],σ):=by
  obtain ⟨a1,a2,a3⟩:=hL.ok 59 rfl
  have:=call_on (X:=X) (B:=aFsB) (T:=V24 x0) (y:=parseB s) (vs:=[aS.enc s]) (σ:=σ) (ro:=0) (dr:=false) a1 a2 a3 rfl (s1_at (A:=aS) (B:=aFsB) (g:=parseB) (ok:=fun s=>(s.size + 1) * 33 ≤ big) hs)
  rw [e] at this
  exact this
theorem a22 (hL:XL X) {x0:Lexm} (σ:List Ob):callv X (callerOf (V24 x0)) false 22 [.agg (lexC x0)] σ 0=some (st (lineS x0),σ):=by
  obtain ⟨a1,a2,a3⟩:=hL.ok 22 rfl
  exact call_on (B:=aS) (T:=V24 x0) (y:=lineS x0) (vs:=[aL.enc x0]) a1 a2 a3 (by simp only [AV.ltAll,aL.lt,Bool.and_self]) (s1_at (A:=aL) (B:=aS) (g:=lineS) (ok:=fun x=>x=x0) rfl)
theorem a22n (hL:XL X) {x0:Lexm} {a b c d:ByteArray} (e:x0=⟨a,b,c,d,[]⟩) (σ:List Ob):callv X (callerOf (V24 x0)) false 22 [.agg [st a,st b,st c,st d,.list .nil 0 0 []]] σ 0=some (st (lineS x0),σ):=by
  obtain ⟨a1,a2,a3⟩:=hL.ok 22 rfl
  subst e
  refine call_on (B:=aS) (T:=V24 _) (y:=lineS ⟨a,b,c,d,[]⟩) (vs:=[.agg [st a,st b,st c,st d,.list .nil 0 0 []]]) a1 a2 a3 rfl ?_
  show s1 aL aS lineS (fun x=>x=(⟨a,b,c,d,[]⟩:Lexm)) [.agg [st a,st b,st c,st d,.list .nil 0 0 []]]=_
  have hd:aL.dec (.agg [st a,st b,st c,st d,.list .nil 0 0 []])=some ⟨a,b,c,d,[]⟩:=rfl
  unfold s1
  rw [sp1_at hd]
  exact if_pos rfl
/-- The four words. -/
theorem g24 {call:Caller} {s a1 w1 a2 w2 a3 w3 a4 w4:ByteArray} {q1 q2 q3 q4:Bool}
    (k1:∀ σ,callv X call false 57 [st s] σ 0=some (.tup [st a1,st w1,bo q1],σ)) (k2:∀ σ,callv X call false 57 [st w1] σ 0=some (.tup [st a2,st w2,bo q2],σ))
    (k3:∀ σ,callv X call false 57 [st w2] σ 0=some (.tup [st a3,st w3,bo q3],σ)) (k4:∀ σ,callv X call false 57 [st w3] σ 0=some (.tup [st a4,st w4,bo q4],σ)) :
    vexec Tryd.prog X call 0 0 fg24 (regN Tryd.f24 1) (f24_S0 s)=some (.normal,f24_S1 s a1 w1 q1)∧vexec Tryd.prog X call 0 0 fg24 (regN Tryd.f24 2) (f24_S1 s a1 w1 q1)=some (.normal,f24_S2 s a1 q1 a2 w2 q2) ∧
    vexec Tryd.prog X call 0 0 fg24 (regN Tryd.f24 3) (f24_S2 s a1 q1 a2 w2 q2)=some (.normal,f24_S3 s a1 q1 a2 q2 a3 w3 q3)∧vexec Tryd.prog X call 0 0 fg24 (regN Tryd.f24 4) (f24_S3 s a1 q1 a2 q2 a3 w3 q3)=some (.normal,f24_S4 s a1 q1 a2 q2 a3 q3 a4 w4 q4) ∧
    vexec Tryd.prog X call 0 0 fg24 (regN Tryd.f24 5) (f24_S4 s a1 q1 a2 q2 a3 q3 a4 w4 q4)=some (.normal,f24_S6 s a1 q1 a2 q2 a3 q3 a4 w4 q4 (!(q1 && (q2 && q3)))):=by
  refine ⟨?_,?_,?_,?_,?_⟩
  · cases q1
    · exact f24_g1_f s X call 0 _ _ _ (k1 _) rfl
    · exact f24_g1_t s X call 0 _ _ _ (k1 _) rfl
  · cases q2
    · exact f24_g2_f s _ _ _ X call 0 _ _ _ (k2 _) rfl
    · exact f24_g2_t s _ _ _ X call 0 _ _ _ (k2 _) rfl
  · cases q3
    · exact f24_g3_f s _ _ _ _ _ X call 0 _ _ _ (k3 _) rfl
    · exact f24_g3_t s _ _ _ _ _ X call 0 _ _ _ (k3 _) rfl
  · cases q4
    · exact f24_g4_f s _ _ _ _ _ _ _ X call 0 _ _ _ (k4 _) rfl
    · exact f24_g4_t s _ _ _ _ _ _ _ X call 0 _ _ _ (k4 _) rfl
  · cases q1 with
    | false=>exact f24_g5_f s _ _ _ _ _ _ _ _ _ X call 0 rfl
    | true =>
      cases q2 with
      | false=>exact f24_g5_tf s _ _ _ _ _ _ _ _ _ X call 0 rfl rfl
      | true =>
        cases q3 with
        | false=>exact f24_g5_ttf s _ _ _ _ _ _ _ _ _ X call 0 rfl rfl rfl
        | true=>exact f24_g5_ttt s _ _ _ _ _ _ _ _ _ X call 0 rfl rfl rfl
/-- ref09.ParseLine. -/
theorem call24 (hX:ExtOk Tryd.prog X) (hL:XL X) {s:ByteArray} (hp:okPar s):CallAt Tryd.prog 24 [aS.enc s] [] 0 (aLE.enc (resE d0L (parseL s))) []:=by
  have hs:s.size < 4294967281:=hp.1
  have hbig:s.size ≤ 140737488355328:=by omega
  have hbody:Tryd.f24.body=some (codeOf Tryd.f24):=by kernel_rfl
  unfold parseL
  have hsl:=split_mk s
  by_cases h4:(spl s.data.toList).length < 4
  · have hC := callerOf_ok (V24_ok hX hL okLine_d0 (Nat.zero_le _))
    rw [hsl]
    unfold parseP
    rw [if_pos (by rw [List.length_map]; exact h4)]
    have ex:∀ t:ByteArray,∃ x w q,wordF t=(x,w,q):=fun t=>⟨_,_,_,rfl⟩
    obtain ⟨p1,w1,q1,e1⟩:=ex s
    obtain ⟨p2,w2,q2,e2⟩:=ex w1
    obtain ⟨p3,w3,q3,e3⟩:=ex w2
    obtain ⟨p4,w4,q4,e4⟩:=ex w3
    have l1:=word_le s
    have l2:=word_le w1
    have l3:=word_le w2
    rw [e1] at l1; rw [e2] at l2; rw [e3] at l3
    simp only at l1 l2 l3
    obtain ⟨r1,r2,r3,r4,r5⟩:=g24 (X:=X) (call:=callerOf (V24 d0L)) (fun σ=>a57 hL hbig e1 σ) (fun σ=>a57 hL (by show _ ≤ 140737488355328; omega) e2 σ) (fun σ=>a57 hL (by show _ ≤ 140737488355328; omega) e3 σ) (fun σ=>a57 hL (by show _ ≤ 140737488355328; omega) e4 σ)
    have hf:=chain_few h4
    rw [e1] at hf
    simp only at hf
    rw [e2] at hf
    simp only at hf
    rw [e3] at hf
    rw [hf] at r5
    exact run_res (B:=aLE) hX hC (hL.dom 24 rfl rfl) Tryd.func24 hbody (f24_pt s _ _ _ _ _ _ _ _ _ _ _ _ true X (callerOf (V24 d0L)) 0 r1 r2 r3 r4 r5 rfl) badL_dec
  · obtain ⟨a, b, c, d, r, hP⟩ : ∃ a b c d r, spl s.data.toList = a :: b :: c :: d :: r := by
      rcases hp:spl s.data.toList with _ | ⟨a,_ | ⟨b,_ | ⟨c,_ | ⟨d,r⟩⟩⟩⟩
      · rw [hp] at h4; exact absurd (by decide) h4
      · rw [hp] at h4; exact absurd (by simp) h4
      · rw [hp] at h4; exact absurd (by simp) h4
      · rw [hp] at h4; exact absurd (by simp) h4
      · exact ⟨a,b,c,d,r,rfl⟩
    obtain ⟨w1,w2,w3,c1,c2,c3,c4⟩:=chain_many hP
    have hne:s ≠ emp:=fun e=>by rw [e] at hP; cases hP
    have l1:=word_le s
    have l2:=word_le w1
    have l3:=word_le w2
    have l4:=word_le w3
    rw [c1] at l1; rw [c2] at l2; rw [c3] at l3; rw [c4] at l4
    simp only at l1 l2 l3 l4
    have hl4 : ¬ (splitL s blank).length < 4:=by rw [hsl,List.length_map]; exact h4
    have hrest : restS (splitL s blank) = mkB (Lib.join r [32]) := by
      unfold restS joinB
      rw [hsl,hP,List.map_cons,List.map_cons,List.map_cons,List.map_cons]
      show (⟨(Lib.join ((r.map mkB).map fun x=>x.data.toList) [32]).toArray⟩:ByteArray)=_
      rw [List.map_map]
      have:((fun x:ByteArray=>x.data.toList) ∘ mkB)=id:=by funext x; rfl
      rw [this,List.map_id]
      rfl
    have hrl:(mkB (Lib.join r [32])).size < lim:=Nat.lt_of_le_of_lt (by omega) hp.1
    have hcand : ∀ F, candF (splitL s blank) F = ⟨mkB a, mkB b, undashS (mkB c), undashS (mkB d), F⟩ := fun F => by
      unfold candF
      rw [hsl,hP]
      rfl
    -- the candidate
    obtain ⟨F,q,hB⟩:∃ F q,parseB (mkB (Lib.join r [32]))=(F,q):=⟨_,_,rfl⟩
    have hF : okF F ∧ F.length ≤ 8 ∧ ∀ f ∈ F, f.name.size ≤ lim ∧ f.value.size ≤ lim := by
      unfold parseB at hB
      cases h:parseF (mkB (Lib.join r [32])) with
      | none =>
        rw [h] at hB
        simp only [Prod.mk.injEq] at hB
        rw [← hB.1]
        exact ⟨⟨Nat.zero_le _,fun f hf=>by simp at hf⟩,Nat.zero_le _,fun f hf=>by simp at hf⟩
      | some F' =>
        rw [h] at hB
        simp only [Prod.mk.injEq] at hB
        rw [← hB.1]
        exact parseF_ok hrl h
    have hok:=okLine_cand hp (F:=F) hl4 hF
    rw [hcand F] at hok
    obtain ⟨x0,hx0⟩:∃ x0,(⟨mkB a,mkB b,undashS (mkB c),undashS (mkB d),F⟩:Lexm)=x0:=⟨_,rfl⟩
    rw [hx0] at hok
    have hst : okS x0.stem := by
      have h3:=part_le (s:=s) (l:=splitL s blank) rfl (i:=2) (by omega)
      have e:nS (splitL s blank) 2=mkB c:=by rw [hsl,hP]; rfl
      rw [e] at h3
      have:=undashS_le h3
      rw [← hx0]
      show (undashS (mkB c)).size ≤ 140737488355328
      omega
    have hC:=callerOf_ok (V24_ok hX hL hok hst)
    obtain ⟨r1,r2,r3,r4,r5⟩:=g24 (X:=X) (call:=callerOf (V24 x0)) (fun σ=>a57 hL hbig c1 σ) (fun σ=>a57 hL (by show _ ≤ 140737488355328; omega) c2 σ) (fun σ=>a57 hL (by show _ ≤ 140737488355328; omega) c3 σ) (fun σ=>a57 hL (by show _ ≤ 140737488355328; omega) c4 σ)
    have hxc:lexC x0=[st (mkB a),st (mkB b),st (undashS (mkB c)),st (undashS (mkB d)),featsV F]:=by rw [← hx0]; rfl
    have h22:=a22 (X:=X) hL (x0:=x0)
    rw [hxc] at h22
    unfold parseP
    rw [if_neg hl4,hrest]
    have good:aLE.dec (.tup [.agg (lexC x0),i6 0])=some (x0,0):=aLE.de (x0,0)
    have se:(s.toList == (ByteArray.mk #[]).toList)=false:=eqB_ne.2 hne
    cases hr:r.isEmpty with
    | true =>
      have hr' : r=[]:=List.isEmpty_iff.1 hr
      rw [hr] at r4 r5
      subst hr'
      have hpf:parseF (mkB (Lib.join [] [32]))=some []:=if_pos rfl
      have hF0 : F = [] := by
        unfold parseB at hB
        rw [hpf] at hB
        simp only [Prod.mk.injEq] at hB
        exact hB.1.symm
      rw [hpf]
      simp only
      rw [hcand [],← hF0,hx0]
      have h22n:=a22n (X:=X) hL (x0:=x0) (hx0.symm.trans (by rw [hF0]))
      by_cases hline:lineS x0=s
      · rw [if_pos hline]
        have r6:=f24_g13b_ff s (mkB a) true (mkB b) true (mkB c) true (mkB d) (mkB (Lib.join [] [32])) false false X (callerOf (V24 x0)) 0 _ _ _ (h22n _) (by rw [eqB_iff.2 hline]; rfl) se
        refine run_res (B:=aLE) hX hC (hL.dom 24 rfl rfl) Tryd.func24 hbody (f24_pfff s _ _ _ _ _ _ _ _ _ _ _ _ false false X (callerOf (V24 x0)) 0 _ _ r1 r2 r3 r4 r5 rfl (a58 hL _ _ _) (a58 hL _ _ _) rfl r6 rfl) ?_
        show aLE.dec (.tup [.agg [st (mkB a),st (mkB b),st (undashS (mkB c)),st (undashS (mkB d)),.list .nil 0 0 []],i6 0])=some (x0,0)
        rw [← hx0,hF0]
        rfl
      · rw [if_neg hline]
        have r6:=f24_g13b_t s (mkB a) true (mkB b) true (mkB c) true (mkB d) (mkB (Lib.join [] [32])) false false X (callerOf (V24 x0)) 0 _ _ _ (h22n _) (by rw [eqB_ne.2 hline]; rfl)
        exact run_res (B:=aLE) hX hC (hL.dom 24 rfl rfl) Tryd.func24 hbody (f24_pfft s _ _ _ _ _ _ _ _ _ _ _ _ false true X (callerOf (V24 x0)) 0 _ _ r1 r2 r3 r4 r5 rfl (a58 hL _ _ _) (a58 hL _ _ _) rfl r6 rfl) badL_dec
    | false =>
      rw [hr] at r4 r5
      have h59:=a59 (X:=X) hL (x0:=x0) (s:=mkB (Lib.join r [32])) (by show _ ≤ 140737488355328; omega) hB
      cases h:parseF (mkB (Lib.join r [32])) with
      | none =>
        have hq : q = false := by
          unfold parseB at hB
          rw [h] at hB
          simp only [Prod.mk.injEq] at hB
          exact hB.2.symm
        exact run_res (B:=aLE) hX hC (hL.dom 24 rfl rfl) Tryd.func24 hbody (f24_pftf s _ _ _ _ _ _ _ _ _ _ _ _ false X (callerOf (V24 x0)) 0 _ _ _ _ _ r1 r2 r3 r4 r5 rfl (a58 hL _ _ _) (a58 hL _ _ _) rfl (h59 _) hq) badL_dec
      | some F' =>
        have hq : F' = F ∧ q = true := by
          unfold parseB at hB
          rw [h] at hB
          simp only [Prod.mk.injEq] at hB
          exact ⟨hB.1,hB.2.symm⟩
        obtain ⟨rfl,rfl⟩:=hq
        simp only
        rw [hcand F',hx0]
        by_cases hline:lineS x0=s
        · rw [if_pos hline]
          have r6:=f24_g13_ff s (mkB a) true (mkB b) true (mkB c) true (mkB d) (mkB (Lib.join r [32])) true false X (callerOf (V24 x0)) 0 _ _ _ _ _ (h22 _) (by rw [eqB_iff.2 hline]; rfl) se
          have ho : AV.ownsAll [AV.agg (lexC x0), i6 0] = [] := by
            simp only [AV.ownsAll,AV.owns,owns_lex,List.append_nil]
          have hv:=vend1_plain (σ:=[Ob.cells (lexC x0),Ob.cells (lexC x0)]) ho
          refine run_res (B:=aLE) hX hC (hL.dom 24 rfl rfl) Tryd.func24 hbody (f24_pfttf s _ _ _ _ _ _ _ _ _ _ _ _ false false X (callerOf (V24 x0)) 0 _ _ _ _ _ (.tup [.agg (lexC x0),i6 0]) [Ob.cells (lexC x0),Ob.cells (lexC x0)] r1 r2 r3 r4 r5 rfl (a58 hL _ _ _) (a58 hL _ _ _) rfl (h59 _) rfl r6 rfl ?_) good
          rw [hxc] at hv ⊢
          exact hv
        · rw [if_neg hline]
          have r6:=f24_g13_t s (mkB a) true (mkB b) true (mkB c) true (mkB d) (mkB (Lib.join r [32])) true false X (callerOf (V24 x0)) 0 _ _ _ _ _ (h22 _) (by rw [eqB_ne.2 hline]; rfl)
          exact run_res (B:=aLE) hX hC (hL.dom 24 rfl rfl) Tryd.func24 hbody (f24_pfttt s _ _ _ _ _ _ _ _ _ _ _ _ false true X (callerOf (V24 x0)) 0 _ _ _ _ _ r1 r2 r3 r4 r5 rfl (a58 hL _ _ _) (a58 hL _ _ _) rfl (h59 _) rfl r6 rfl) badL_dec
end
end Go.Proofs.Lex
end
/- Lexicon: plain laws: a line, read again. -/
section
open Go Go.Vm Go.Proofs
namespace Go.Proofs.Lex
/-! ### what a name's bytes are -/
/-! ### a line's words -/
end Go.Proofs.Lex
end
/- Lexicon: the laws of lines and of parsing, walked (printed) -/
section
open Go Go.Vm Go.Proofs
namespace Go.Proofs.Lex
theorem f6_pttt (s0:ByteArray)(X:Ext)(call:Caller)(lf:Nat)
 (h0:callv X call false 14 [] [] 0=some (bo true,[]))
 (h1:decide ((↑(ByteArray.size s0):Int)>300)=true)
 (h2:callv X call false 14 [] [] 0=some (bo true,[])):vbody Tryd.prog X call lf noFg Tryd.f6 (codeOf Tryd.f6) [st s0] [] 0=some (bo true,[]) :=
  along_sound (ans:=[(3,Ans.v (bo true)),(11,Ans.b true),(15,Ans.v (bo true))]) (by kernel_rfl) (ai h0 (ai h1 (ai h2 trivial)))
theorem f6_ptftt (s0:ByteArray)(X:Ext)(call:Caller)(lf:Nat)(a c d e:ByteArray)(g:Nat)(h:List AV)(j:Int)(k p q r:ByteArray)(t:Nat)(u:List AV)(w:Int)
 (h0:callv X call false 14 [] [] 0=some (bo true,[]))
 (h1:decide ((↑(ByteArray.size s0):Int)>300)=false)
 (h2:callv X call false 23 [st s0] [] 0=some (AV.tup [AV.agg [st a,st c,st d,st e,lro g 2 h],i6 j],[]))
 (h3:callv X call false 24 [st s0] [Ob.cells [st a,st c,st d,st e,lro g 2 h]] 0=some (AV.tup [AV.agg [st k,st p,st q,st r,lro t 2 u],i6 w],[Ob.cells [st a,st c,st d,st e,lro g 2 h]]))
 (h4:(j == w)=true)
 (h5:callv X call false 25 [AV.agg [st a,st c,st d,st e,lro g 2 h],AV.agg [st k,st p,st q,st r,lro t 2 u]] [Ob.cells [st a,st c,st d,st e,lro g 2 h],Ob.cells [st k,st p,st q,st r,lro t 2 u]] 0=some (bo true,[Ob.cells [st a,st c,st d,st e,lro g 2 h],Ob.cells [st k,st p,st q,st r,lro t 2 u]])):vbody Tryd.prog X call lf noFg Tryd.f6 (codeOf Tryd.f6) [st s0] [] 0=some (bo true,[Ob.cells [st a,st c,st d,st e,lro g 2 h],Ob.cells [st k,st p,st q,st r,lro t 2 u]]) :=
  along_sound (ans:=[(3,Ans.v (bo true)),(11,Ans.b false),(16,Ans.v (AV.tup [AV.agg [st a,st c,st d,st e,lro g 2 h],i6 j])),(25,Ans.v (AV.tup [AV.agg [st k,st p,st q,st r,lro t 2 u],i6 w])),(35,Ans.b true),(42,Ans.v (bo true))]) (by kernel_rfl) (ai h0 (ai h1 (ai h2 (ai h3 (ai h4 (ai h5 trivial))))))
end Go.Proofs.Lex
end
/- Lexicon: the laws of lines, of parsing, and of both. -/
section
open Go Go.Vm Go.Proofs
namespace Go.Proofs.Lex
section
variable [Fixed]
theorem okPar_of {s:ByteArray} (h:s.size < lim):okPar s:=by
  refine ⟨h,any_all ?_⟩
  have h2 : (nS (splitL s blank) 2).size ≤ s.size := by
    by_cases hk:2 < (splitL s blank).length
    · exact part_le rfl hk
    · unfold nS
      rw [List.getD_eq_getElem?_getD,List.getElem?_eq_none (by omega)]
      exact Nat.zero_le _
  exact Nat.lt_of_le_of_lt (undashS_le h2) h
end
section
variable [Fixed] {X:Ext}
theorem parse_len {s:ByteArray} {x:Lexm} (hs:s.size < lim) (h:parseL s=some x):okF x.feats∧x.feats.length ≤ 8∧(∀ f ∈ x.feats,f.name.size ≤ lim∧f.value.size ≤ lim)∧okLine x:=by
  have hp:=okPar_of hs
  unfold parseL parseP at h
  split at h
  · cases h
  · rename_i h4
    cases hF:parseF (restS (splitL s blank)) with
    | none=>rw [hF] at h; cases h
    | some F =>
      rw [hF] at h
      simp only at h
      split at h
      · simp only [Option.some.injEq] at h
        have hr : (restS (splitL s blank)).size ≤ s.size := by
          have:=joinB_drop_le s 4
          show (joinB ((splitL s blank).drop 4) blank).toArray.size ≤ _
          simpa using this
        have hk:=parseF_ok (Nat.lt_of_le_of_lt hr hs) hF
        have hl:=okLine_cand hp h4 hk
        subst h
        exact ⟨hk.1,hk.2.1,hk.2.2,hl⟩
      · cases h
abbrev resL (s:ByteArray):Lexm × Int:=resE d0L (parseL s)
theorem res_len {s:ByteArray} (hs:s.size < lim):(resL s).1.feats.length ≤ big:=by
  unfold resL
  cases h:parseL s with
  | none=>exact Nat.zero_le _
  | some x=>exact Nat.le_trans (parse_len hs h).2.1 (by decide)
def V6 (s0:ByteArray):Go.Vm.Spec:=((TB.on 23 (s1 aS aLE resL fun s=>s=s0)).on 24 (s1 aS aLE resL fun s=>s=s0)).on 25 (sp2 aL aL fun x y=>if x.feats.length ≤ big then some (aB.enc (decide (x=y))) else none)
theorem V6_ok (hX:ExtOk Tryd.prog X) (hM:XM X) (h14:CallAt Tryd.prog 14 [] [] 0 (bo true) []) {s0:ByteArray} (h:okPar s0):SpecOk Tryd.prog (V6 s0):=by
  refine SpecOk.on2 (SpecOk.s1 (SpecOk.s1 (TB_ok hX hM.toXL h14) fun s hs=>by subst hs; exact call23 hX hM h) fun s hs=>by subst hs; exact call24 hX hM.toXL h) fun x y r hr => ?_
  split at hr
  · rename_i hF
    simp only [Option.some.injEq] at hr
    subst hr
    exact call25 hX hM.toXL hF
  · cases hr
variable (hX:ExtOk Tryd.prog X) (hM:XM X) (h14:CallAt Tryd.prog 14 [] [] 0 (bo true) [])
include hX hM h14
theorem on14 {T:Go.Vm.Spec} (h:T 14 []=some (bo true)) (σ:List Ob) (dr:Bool):callv X (callerOf T) dr 14 [] σ 0=some (bo true,σ):=by
  obtain ⟨a1,a2,a3⟩:=hM.ok 14 rfl
  exact call_on (B:=aB) (y:=true) a1 a2 a3 rfl h
theorem law6a {s:ByteArray}:CallAt Tryd.prog 6 [aS.enc s] [] 0 (aB.enc true) []:=by
  have hL:=hM.toXL
  by_cases h3:(s.size:Int) > 300
  · exact run_res (B:=aB) hX (callerOf_ok (TB_ok hX hL h14)) (hL.dom 6 rfl rfl) Tryd.func6 (by kernel_rfl) (f6_pttt s X (callerOf TB) 0 (on14 hX hM h14 rfl _ _) (decide_eq_true h3) (on14 hX hM h14 rfl _ _)) rfl
  · have hs : s.size < lim := by show _ < 4294967281; omega
    have hC:=callerOf_ok (V6_ok hX hM h14 (okPar_of hs))
    obtain ⟨x,n,hr⟩:∃ x n,resL s=(x,n):=⟨_,_,rfl⟩
    have hl:=res_len hs
    rw [hr] at hl
    have e23 : ∀ σ, callv X (callerOf (V6 s)) false 23 [st s] σ 0 = some (.tup [.agg (lexC x), i6 n], σ) := fun σ => by
      obtain ⟨a1,a2,a3⟩:=hL.ok 23 rfl
      have:=call_on (X:=X) (B:=aLE) (T:=V6 s) (y:=resL s) (vs:=[aS.enc s]) (σ:=σ) (ro:=0) (dr:=false) a1 a2 a3 rfl (s1_at (A:=aS) (B:=aLE) (g:=resL) (ok:=fun t=>t=s) rfl)
      rw [hr] at this
      exact this
    have e24 : ∀ σ, callv X (callerOf (V6 s)) false 24 [st s] σ 0 = some (.tup [.agg (lexC x), i6 n], σ) := fun σ => by
      obtain ⟨a1,a2,a3⟩:=hL.ok 24 rfl
      have:=call_on (X:=X) (B:=aLE) (T:=V6 s) (y:=resL s) (vs:=[aS.enc s]) (σ:=σ) (ro:=0) (dr:=false) a1 a2 a3 rfl (s1_at (A:=aS) (B:=aLE) (g:=resL) (ok:=fun t=>t=s) rfl)
      rw [hr] at this
      exact this
    have e25 : ∀ σ, callv X (callerOf (V6 s)) false 25 [.agg (lexC x), .agg (lexC x)] σ 0 = some (bo true, σ) := fun σ => by
      obtain ⟨a1,a2,a3⟩:=hL.ok 25 rfl
      refine call_on (B:=aB) (T:=V6 s) (y:=true) (vs:=[aL.enc x,aL.enc x]) a1 a2 a3 (by simp only [AV.ltAll,aL.lt,Bool.and_self]) ?_
      show sp2 aL aL (fun x y=>if x.feats.length ≤ big then some (aB.enc (decide (x=y))) else none) [aL.enc x,aL.enc x]=_
      rw [sp2_at (aL.de _) (aL.de _),if_pos hl,decide_eq_true rfl]
    exact run_res (B:=aB) hX hC (hL.dom 6 rfl rfl) Tryd.func6 (by kernel_rfl) (f6_ptftt s X (callerOf (V6 s)) 0 _ _ _ _ _ _ _ _ _ _ _ _ _ _ (on14 hX hM h14 rfl _ _) (decide_eq_false h3) (e23 _) (e24 _) (by simp) (e25 _)) rfl
end
end Go.Proofs.Lex
end
